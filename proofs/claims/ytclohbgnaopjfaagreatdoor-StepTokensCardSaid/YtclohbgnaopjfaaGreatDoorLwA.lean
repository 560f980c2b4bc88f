/- Texts of the proof of stepTokensCard -/
import Derived.Test.YtclohbgnaopjfaaGreatDoorAgF
import Derived.Lib.RuneCount
import Derived.Lib.SlTrimSet
import Derived.Lib.ValidU
import Derived.Lib.MapLaws
import Derived.Lib.ValidLaws
import Derived.Test.YtclohbgnaopjfaaGreatDoorAgWith
namespace Go.Proofs.YtclohbgnaopjfaaGreatDoor
set_option linter.unusedSimpArgs false
set_option linter.unusedVariables false
open Go
theorem qx {x : Int} (h : -9223372036854775808 ≤ x ∧ x ≤ 9223372036854775807) : w64 x = x := aus h
theorem qf {α : Type} {p : Prop} [Decidable p] (h : p) (x : Option α) : chk p x = x := if_pos h
theorem xC {α : Type} {l : List α} {i : Nat} {x : α} (h : l[i]? = some x) : rd l (i : Int) = some x := by
 unfold rd; rw [if_pos (by omega)]; simpa using h
theorem aee {α : Type} (pre suf : List α) (x : α) : rd (pre ++ x :: suf) (pre.length : Int) = some x := xC (by simp)
theorem JX {α : Type} {l : List α} {a b : Nat} (h1 : a ≤ b) (h2 : b ≤ l.length) : sl l (a : Int) (b : Int) = some ((l.take b).drop a) := by
 unfold sl; rw [if_pos (by omega)]; simp
theorem as2 {α : Type} (pre suf : List α) : sl (pre ++ suf) 0 (pre.length : Int) = some pre := by
 have := JX (l := pre ++ suf) (a := 0) (b := pre.length) (by omega) (by simp)
 simpa using this
theorem wW {α : Type} {z : Nat} {l ys : List α} (h : (l.length + ys.length) * z ≤ 140737488355328) : app z l ys = some (l ++ ys) := if_pos h
theorem kz {α : Type} (l : List α) : l = [] ∨ ∃ a x, l = a ++ [x] := by
 rcases List.eq_nil_or_concat l with h | ⟨a, x, h⟩
 ·exact .inl h
 ·exact .inr ⟨a, x, by simpa using h⟩
abbrev ve : Str := [116, 101, 120, 116]
def qX : List Str → Nat
 | [] => 0
 | s :: l => 1 + s.length + qX l
theorem ajc {s : Str} : ∀ {l : List Str}, s ∈ l → s.length ≤ qX l
 | x :: l, h => by
  simp only [qX]
  rcases List.mem_cons.1 h with rfl | h
  ·omega
  ·have := ajc h; omega
theorem afS (l : List Str) : l.length ≤ qX l := by
 induction l with
 | nil => simp
 | cons s l ih => simp only [List.length_cons, qX]; omega
end Go.Proofs.YtclohbgnaopjfaaGreatDoor
namespace Go.Proofs.YtclohbgnaopjfaaGreatDoor
set_option linter.unusedSimpArgs false
set_option linter.unusedVariables false
open Go
def isT (n : za) : Bool := n.Kind == ve
theorem Wd (n : za) : (n.Kind == ([116, 101, 120, 116] : Str)) = isT n := rfl
theorem za.ind {p : za → Prop} (h : ∀ n : za, (∀ k ∈ n.Kids, p k) → p n) : ∀ n, p n
 | ⟨a, b, c, d, ks⟩ => h _ fun k hk => za.ind h k
 termination_by n => n
 decreasing_by
  have : SizeOf.sizeOf k < SizeOf.sizeOf ks := List.sizeOf_lt_of_mem hk
  simp only [za.mk.sizeOf_spec]
  omega
def aeh (s : Str) : Nat := Lib.runeCountL s
theorem akC (s : Str) : aeh s ≤ s.length := by
 have := Lib.runeCountFrom_le ⟨s.toArray⟩ (ByteArray.size ⟨s.toArray⟩) 0
 simpa [aeh, Lib.runeCountL, Lib.runeCount, ByteArray.size] using this
theorem ajO (s : Str) : ∀ (f k : Nat) (n : Int) (pos : Nat), s.length - pos ≤ f → f < k → 0 ≤ n → n + f ≤ 9223372036854775807 → zN s k n pos = some (n + Lib.runeCountFrom ⟨s.toArray⟩ f pos) := by
 intro f
 induction f with
 | zero =>
  intro k n pos h1 h2 h3 h4
  obtain ⟨k, rfl⟩ : ∃ j, k = j + 1 := ⟨k - 1, by omega⟩
  have : ¬ pos < s.length := by omega
  simp [zN, this, Lib.runeCountFrom]
 | succ f ih =>
  intro k n pos h1 h2 h3 h4
  obtain ⟨k, rfl⟩ : ∃ j, k = j + 1 := ⟨k - 1, by omega⟩
  rw [zN]
  by_cases hp : pos < s.length
  ·have hw := Lib.decode_width_pos ⟨s.toArray⟩ pos (by simpa [ByteArray.size] using hp)
   simp only [hp, decide_true, if_true]
   rw [qx (by omega), ih k (n + 1) _ (by simp only [aeL]; omega) (by omega) (by omega) (by omega)]
   have hs : pos < ByteArray.size ⟨s.toArray⟩ := by simpa [ByteArray.size] using hp
   simp only [Lib.runeCountFrom, hs, if_true, aeL, Option.some.injEq]
   omega
  ·have hs : ¬ pos < ByteArray.size ⟨s.toArray⟩ := by simpa [ByteArray.size] using hp
   simp [hp, Lib.runeCountFrom, hs]
theorem runeCount_eq (s : Str) (h : s.length ≤ 9223372036854775807) : wu s = some (aeh s : Int) := by
 have key : (lim fun k => zN s k 0 0) = some (aeh s : Int) := by
  refine Zj (s.length + 1) fun k hk => ?_
  rw [ajO s s.length k 0 0 (by omega) (by omega) (by omega) (by omega)]
  simp [aeh, Lib.runeCountL, Lib.runeCount, ByteArray.size]
 unfold wu
 rw [key]
 rfl
mutual
def wE : za → Nat
 | ⟨k, t, _, _, ks⟩ => if (k == ve) = true then aeh t else 2 + zD ks
def zD : List za → Nat
 | [] => 0
 | n :: l => wE n + zD l
end
mutual
def QZ : za → Nat
 | ⟨_, _, _, _, ks⟩ => 1 + kE ks
def kE : List za → Nat
 | [] => 0
 | n :: l => max (QZ n) (kE l)
end
def wo : List zf → Nat
 | [] => 0
 | a :: l => 1 + a.Name.length + a.Value.length + wo l
mutual
def nwt : za → Nat
 | ⟨k, t, m, a, ks⟩ => 2 + k.length + t.length + qX m + wo a + zM ks
def zM : List za → Nat
 | [] => 0
 | n :: l => nwt n + zM l
end
theorem vV (n : za) : wE n = if isT n = true then aeh n.Text else 2 + zD n.Kids := by cases n; simp only [wE, isT]; rfl
theorem yl {n : za} (h : isT n = false) : wE n = 2 + zD n.Kids := by rw [vV, h]; simp
theorem yG (n : za) : QZ n = 1 + kE n.Kids := by cases n; simp only [QZ]
theorem qQ (n : za) : nwt n = 2 + n.Kind.length + n.Text.length + qX n.Marks + wo n.zq + zM n.Kids := by cases n; simp only [nwt]
theorem kV (a b : List za) : zM (a ++ b) = zM a + zM b := by
 induction a with
 | nil => simp [zM]
 | cons n a ih => simp only [List.cons_append, zM, ih]; omega
theorem Xt (a b : List za) : zD (a ++ b) = zD a + zD b := by
 induction a with
 | nil => simp [zD]
 | cons n a ih => simp only [List.cons_append, zD, ih]; omega
theorem kv (l : List za) : 2 * l.length ≤ zM l := by
 induction l with
 | nil => simp
 | cons n l ih => have := qQ n; simp only [zM, List.length_cons]; omega
theorem Qe {n : za} : ∀ {l : List za}, n ∈ l → nwt n ≤ zM l
 | x :: l, h => by
  simp only [zM]
  rcases List.mem_cons.1 h with rfl | h
  ·omega
  ·have := Qe h; omega
theorem yR {n : za} : ∀ {l : List za}, n ∈ l → QZ n ≤ kE l
 | x :: l, h => by
  simp only [kE]
  rcases List.mem_cons.1 h with rfl | h
  ·omega
  ·have := yR h; omega
theorem vN (n : za) : zM n.Kids ≤ nwt n := by have := qQ n; omega
theorem aey : ∀ (l : List za), (∀ n ∈ l, wE n ≤ nwt n) → zD l ≤ zM l
 | [], _ => by simp [zD, zM]
 | n :: l, h => by
  have h1 := h n (by simp)
  have h2 := aey l fun x hx => h x (by simp [hx])
  simp only [zD, zM]; omega
theorem adE (n : za) : wE n ≤ nwt n := by
 induction n using za.ind with
 | h n ih =>
  have h1 := aey n.Kids ih
  have h2 := akC n.Text
  rw [vV, qQ]
  split <;> omega
theorem kM (l : List za) : zD l ≤ zM l := aey l fun n _ => adE n
theorem KM (n : za) : jg n = some (isT n) := by unfold jg isT; rfl
theorem af6 (sz : za → Option Int) : ∀ (l : List za) (i acc : Int), (∀ k ∈ l, sz k = some (wE k : Int)) → 0 ≤ acc → acc + zD l ≤ 9223372036854775807 → jb sz l i acc = some (acc + zD l)
 | [], i, acc, _, _, _ => by simp [jb, zD]
 | n :: l, i, acc, h, h0, hb => by
  simp only [zD] at hb
  rw [jb, h n (by simp)]
  simp only [Option.bind_some]
  rw [qx (by omega), af6 sz l _ _ (fun k hk => h k (by simp [hk])) (by omega) (by omega)]
  simp only [zD, Option.some.injEq]
  omega
theorem asA (n : za) : nwt n ≤ 1099511627776 → ∀ kr, 2 * QZ n ≤ kr → jc kr n = some (wE n : Int) := by
 induction n using za.ind with
 | h n ih =>
  intro hw kr hk
  have hd := yG n
  obtain ⟨kr, rfl⟩ : ∃ j, kr = j + 1 + 1 := ⟨kr - 2, by omega⟩
  have hwt := qQ n
  have hl := kv n.Kids
  have hs := kM n.Kids
  rw [jc, KM, vV]
  simp only [Option.bind_some]
  by_cases ht : isT n = true
  ·simp only [ht, if_true]
   rw [runeCount_eq _ (by omega)]
   rfl
  ·simp only [ht, Bool.false_eq_true, if_false]
   rw [xy, qf (by omega), af6 (jc kr) n.Kids 0 0 (fun k hkk => ih k hkk (by have := Qe hkk; omega) kr (by have := yR hkk; omega)) (by omega) (by omega)]
   simp only [Option.bind_some]
   rw [qx (by omega)]
   simp only [Option.some.injEq]
   omega
theorem size_eq (n : za) (h : nwt n ≤ 1099511627776) : yE n = some (wE n : Int) := by
 unfold yE
 exact Zj (2 * QZ n) fun k hk => asA n h k hk
theorem Wn (l : List za) (h : zM l ≤ 1099511627776) : jT l = some (zD l : Int) := by
 unfold jT
 refine Zj (2 * kE l + 1) fun kr hk => ?_
 obtain ⟨kr, rfl⟩ : ∃ j, kr = j + 1 := ⟨kr - 1, by omega⟩
 have hl := kv l
 have hs := kM l
 rw [xy, qf (by omega), af6 (jc kr) l 0 0 (fun k hkk => asA k (by have := Qe hkk; omega) kr (by have := yR hkk; omega)) (by omega) (by omega)]
 simp
theorem ado (b : List Str) : ∀ (suf pre : List Str) (i : Int), i = (pre.length : Int) → b.length = pre.length + suf.length → b.take pre.length = pre → qB b suf i = some (if pre ++ suf = b then .inr () else .inl false)
 | [], pre, i, hi, hl, ht => by
  have : pre = b := by
   rw [← ht, List.take_of_length_le]
   simp at hl; omega
  simp [qB, this]
 | y :: suf, pre, i, hi, hl, ht => by
  simp only [List.length_cons] at hl
  obtain ⟨x, hx⟩ : ∃ x, b[pre.length]? = some x := ⟨b[pre.length], List.getElem?_eq_getElem (by omega)⟩
  rw [qB, hi, xC hx]
  simp only [Option.bind_some]
  have htk : b.take (pre.length + 1) = pre ++ [x] := by
   rw [List.take_add_one, ht, hx]
   rfl
  by_cases hxy : y = x
  ·subst hxy
   simp only [beq_self_eq_true, Bool.not_true, Bool.false_eq_true, if_false]
   rw [ado b suf (pre ++ [y]) _ (by simp) (by simp; omega) (by simpa using htk)]
   simp
  ·have : ¬ pre ++ y :: suf = b := by
    intro h
    rw [← h] at hx
    simp at hx
    exact hxy hx
   simp [hxy, this]
theorem akn (a b : List Str) (h : a.length ≤ 9223372036854775807) : vk a b = some (decide (a = b)) := by
 unfold vk
 by_cases hl : a.length = b.length
 ·simp only [hl, bne_self_eq_false, Bool.false_eq_true, if_false]
  rw [qf (by omega), ado b a [] 0 rfl (by simp [hl]) (by simp)]
  by_cases e : a = b <;> simp [e]
 ·have h1 : ((a.length : Int) != (b.length : Int)) = true := by simp; omega
  have h2 : ¬ a = b := fun e => hl (by rw [e])
  rw [if_pos h1]
  simp [h2]
def joinStep (out : List za) (n : za) : List za :=
 if (isT n && n.Text == []) = true then out
 else match out.getLast? with
  | some x => if (isT n && isT x && decide (x.Marks = n.Marks)) = true then out.dropLast ++ [{ n with Text := x.Text ++ n.Text }] else out ++ [n]
  | none => out ++ [n]
def xG (l : List za) : List za := l.foldl joinStep []
theorem vw (n : za) : joinStep [] n = if (isT n && n.Text == []) = true then [] else [n] := by
 unfold joinStep; rfl
theorem wN (o : List za) (x n : za) : joinStep (o ++ [x]) n = if (isT n && n.Text == []) = true then o ++ [x] else if (isT n && isT x && decide (x.Marks = n.Marks)) = true then o ++ [{ n with Text := x.Text ++ n.Text }] else o ++ [x, n] := by
 unfold joinStep
 simp
theorem Ym (o : List za) (n : za) : zM (joinStep o n) ≤ zM o + nwt n := by
 rcases kz o with rfl | ⟨o, x, rfl⟩
 ·rw [vw]
  split <;> simp [zM]
 ·rw [wN]
  split
  ·omega
  ·split
   ·simp only [kV, zM, qQ, List.length_append]
    omega
   ·simp only [kV, zM]
    omega
theorem apd : ∀ (l o : List za), zM (l.foldl joinStep o) ≤ zM o + zM l
 | [], o => by simp [zM]
 | n :: l, o => by
  have h1 := Ym o n
  have h2 := apd l (joinStep o n)
  simp only [List.foldl_cons, zM]
  omega
theorem YF (l : List za) : zM (xG l) ≤ zM l := by
 have := apd l []
 simpa [xG, zM] using this
end Go.Proofs.YtclohbgnaopjfaaGreatDoor
namespace Go.Proofs.YtclohbgnaopjfaaGreatDoor
set_option linter.unusedSimpArgs false
set_option linter.unusedVariables false
open Go
def wG (a b : za) : Bool := isT a && isT b && decide (a.Marks = b.Marks)
def vE : List za → Prop
 | a :: b :: l => wG a b = false ∧ vE (b :: l)
 | _ => True
end Go.Proofs.YtclohbgnaopjfaaGreatDoor
namespace Go.Proofs.YtclohbgnaopjfaaGreatDoor
set_option linter.unusedSimpArgs false
set_option linter.unusedVariables false
open Go
def alH (b : Bool) : Bool ⊕ Unit := match b with
 | true => .inr ()
 | false => .inl false
def letter (b : UInt8) : Bool := decide (97 ≤ b.toNat) && decide (b.toNat ≤ 122)
abbrev abc : Str := [97, 98, 99, 100, 101, 102, 103, 104, 105, 106, 107, 108, 109, 110, 111, 112, 113, 114, 115, 116, 117, 118, 119, 120, 121, 122]
def isName (s : Str) : Bool := s.all letter && decide (s ≠ []) && decide (s.length ≤ 8) && decide (s ≠ ve)
theorem akB (b : UInt8) : abc.contains b = letter b := by
 have h : ∀ n, n < 256 → abc.contains (UInt8.ofNat n) = letter (UInt8.ofNat n) := by decide +kernel
 have := h b.toNat b.toNat_lt
 simpa using this
theorem ahd (p : UInt8 → Bool) : ∀ l : Str, (∀ x ∈ l.dropWhile p, p x = true) → ∀ x ∈ l, p x = true
 | [], _ => by simp
 | a :: l, h => by
  by_cases ha : p a = true
  ·rw [List.dropWhile_cons_of_pos ha] at h
   intro x hx
   rcases List.mem_cons.1 hx with rfl | hx
   ·exact ha
   ·exact ahd p l h x hx
  ·rw [List.dropWhile_cons_of_neg ha] at h
   exact (ha (h a (by simp))).elim
theorem ak0 (p : UInt8 → Bool) : ∀ l : Str, (∀ x ∈ l, p x = true) → l.dropWhile p = []
 | [], _ => rfl
 | a :: l, h => by
  rw [List.dropWhile_cons_of_pos (h a (by simp))]
  exact ak0 p l fun x hx => h x (by simp [hx])
theorem arj (s : Str) : (Lib.trimS s abc == []) = s.all letter := by
 have hp : (fun b => abc.contains b) = letter := funext akB
 unfold Lib.trimS Lib.trimLeftS Lib.trimRightS
 rw [hp]
 cases h : s.all letter with
 | true =>
  have h' := List.all_eq_true.1 h
  rw [ak0 letter s.reverse fun x hx => h' x (by simpa using hx)]
  rfl
 | false =>
  rw [beq_eq_false_iff_ne]
  intro e
  have h1 : ∀ x ∈ (s.reverse.dropWhile letter).reverse, letter x = true := ahd letter _ (by rw [e]; simp)
  have h2 := ahd letter s.reverse fun x hx => h1 x (by simpa using hx)
  have h3 : s.all letter = true := List.all_eq_true.2 fun x hx => h2 x (by simpa using hx)
  rw [h] at h3
  cases h3
theorem aci (s : Str) (h : s.length ≤ 9223372036854775807) : yz s = some (isName s) := by
 unfold yz KD isName
 rw [qf ⟨h, by decide, by decide⟩]
 simp only [Option.bind_some, arj]
 cases h1 : s.all letter with
 | false => simp
 | true =>
  by_cases h2 : s = []
  ·simp [h2]
  ·by_cases h3 : s.length ≤ 8
   ·have g3 : decide ((s.length : Int) ≤ 8) = true := by simp; omega
    have g2 : (s == []) = false := by simpa using h2
    simp only [if_true, g2, Bool.not_false, g3, h2, h3, ne_eq, not_false_eq_true, decide_true, Bool.true_and]
    by_cases h4 : s = ve <;> simp [h4]
   ·have g3 : decide ((s.length : Int) ≤ 8) = false := by simp; omega
    have g2 : (s == []) = false := by simpa using h2
    simp only [if_true, g2, Bool.not_false, g3, Bool.false_eq_true, if_false]
    simp [h3]
end Go.Proofs.YtclohbgnaopjfaaGreatDoor
namespace Go.Proofs.YtclohbgnaopjfaaGreatDoor
set_option linter.unusedSimpArgs false
set_option linter.unusedVariables false
open Go
def isValue (s : Str) : Bool := decide (s.length ≤ 40) && Lib.validD s
theorem amo (s : Str) (h : s.length ≤ 9223372036854775807) : QL s = some (isValue s) := by
 unfold QL wM isValue
 rw [qf h]
 by_cases h3 : s.length ≤ 40
 ·have g3 : decide ((s.length : Int) ≤ 40) = true := by simp; omega
  simp [g3, h3]
 ·have g3 : decide ((s.length : Int) ≤ 40) = false := by simp; omega
  simp only [g3, Bool.false_eq_true, if_false]
  simp [h3]
def ym : Option Str → List Str → Bool
 | _, [] => true
 | last, y :: l => isName y && (match last with | none => true | some x => !(Op.bytesLess y x || y == x)) && ym (some y) l
theorem KR (last : Option Str) (y : Str) (l : List Str) : ym last (y :: l) = (isName y && (match last with | none => true | some x => !(Op.bytesLess y x || y == x)) && ym (some y) l) := by cases last <;> rfl
def jD (l : List Str) : Bool := ym none l
theorem aoI : ∀ (suf pre : List Str), (∀ s ∈ suf, s.length ≤ 9223372036854775807) → (pre ++ suf).length ≤ 4611686018427387904 → vD (pre ++ suf) suf (pre.length : Int) = some (alH (ym pre.getLast? suf))
 | [], pre, _, _ => by simp [vD, ym, alH]
 | y :: suf, pre, h, hb => by
  have e : (pre.length : Int) + 1 = ((pre ++ [y]).length : Int) := by simp
  have ih := aoI suf (pre ++ [y]) (fun s hs => h s (by simp [hs])) (by simpa using hb)
  rw [List.append_assoc, List.singleton_append, ← e, List.getLast?_append, List.getLast?_singleton] at ih
  simp only [Option.some_or] at ih
  rw [vD, aci y (h y (by simp))]
  simp only [Option.bind_some]
  rw [KR]
  rcases Bool.eq_false_or_eq_true (isName y) with hn | hn
  rotate_left
  ·simp [hn, alH]
  ·rw [hn]
   simp only [Bool.not_true, Bool.false_eq_true, if_false, Bool.true_and]
   rcases kz pre with rfl | ⟨p, x, rfl⟩
   ·have g : decide ((([] : List Str).length : Int) > 0) = false := by decide
    simp only [g, Bool.false_eq_true, if_false]
    rw [ih]
    simp
   ·have g : decide (((p ++ [x]).length : Int) > 0) = true := decide_eq_true (by simp only [List.length_append, List.length_cons, List.length_nil]; omega)
    have hr : rd (p ++ [x] ++ y :: suf) (w64 (((p ++ [x]).length : Int) - 1)) = some x := by
     simp only [List.length_append, List.length_cons, List.length_nil] at hb
     rw [qx (by simp; omega)]
     have e2 : ((p ++ [x]).length : Int) - 1 = (p.length : Int) := by simp
     rw [e2, List.append_assoc]
     exact aee p (y :: suf) x
    simp only [g, if_true, hr, Option.bind_some, List.getLast?_append, List.getLast?_singleton, Option.some_or]
    rcases Bool.eq_false_or_eq_true (Op.bytesLess y x || y == x) with hc | hc
    ·simp only [hc, if_true, Bool.not_true, Bool.false_and, alH]
    ·simp only [hc, Bool.false_eq_true, if_false, Bool.not_false, Bool.true_and]
     exact ih
theorem aoD (l : List Str) (h : ∀ s ∈ l, s.length ≤ 9223372036854775807) (hb : l.length ≤ 4611686018427387904) : KO l = some (jD l) := by
 have h0 := aoI l [] h (by simpa using hb)
 have h0' : vD l l 0 = _ := h0
 unfold KO
 rw [qf (by omega), h0']
 simp only [Option.bind_some, List.getLast?_nil, jD]
 cases ym none l <;> rfl
theorem asK (b : List Str) : ∀ (suf pre : List Str) (i : Int), i = (pre.length : Int) → b.length = pre.length + suf.length → b.take pre.length = pre → qR b suf i = some (if pre ++ suf = b then .inr () else .inl false)
 | [], pre, i, hi, hl, ht => by
  have : pre = b := by
   rw [← ht, List.take_of_length_le]
   simp at hl; omega
  simp [qR, this]
 | y :: suf, pre, i, hi, hl, ht => by
  simp only [List.length_cons] at hl
  obtain ⟨x, hx⟩ : ∃ x, b[pre.length]? = some x := ⟨b[pre.length], List.getElem?_eq_getElem (by omega)⟩
  rw [qR, hi, xC hx]
  simp only [Option.bind_some]
  have htk : b.take (pre.length + 1) = pre ++ [x] := by
   rw [List.take_add_one, ht, hx]
   rfl
  by_cases hxy : y = x
  ·subst hxy
   simp only [beq_self_eq_true, Bool.not_true, Bool.false_eq_true, if_false]
   rw [asK b suf (pre ++ [y]) _ (by simp) (by simp; omega) (by simpa using htk)]
   simp
  ·have : ¬ pre ++ y :: suf = b := by
    intro h
    rw [← h] at hx
    simp at hx
    exact hxy hx
   simp [hxy, this]
theorem auT (a b : List Str) (h : a.length ≤ 9223372036854775807) : slices_Equal_string a b = some (decide (a = b)) := by
 unfold slices_Equal_string
 by_cases hl : a.length = b.length
 ·simp only [hl, bne_self_eq_false, Bool.false_eq_true, if_false]
  rw [qf (by omega), asK b a [] 0 rfl (by simp [hl]) (by simp)]
  by_cases e : a = b <;> simp [e]
 ·have h1 : ((a.length : Int) != (b.length : Int)) = true := by simp; omega
  have h2 : ¬ a = b := fun e => hl (by rw [e])
  rw [if_pos h1]
  simp [h2]
theorem amN (a b : za) (h : a.Marks.length ≤ 9223372036854775807) : Zl a b = some (wG a b) := by
 unfold Zl wG
 rw [KM, KM]
 simp only [Option.bind_some]
 rw [auT _ _ h]
 cases isT a <;> cases isT b <;> simp
mutual
def qh : za → Bool
 | ⟨k, t, m, a, ks⟩ => if (k == ve) = true then (decide (t ≠ []) && Lib.validD t && jD m && decide (a.length + ks.length = 0)) else (a.all (fun x => isValue x.Value) && isName k && decide (t = []) && decide (m = []) && jD (a.map (·.Name)) && xx none ks)
def xx : Option za → List za → Bool
 | _, [] => true
 | last, n :: l => qh n && (match last with | none => true | some x => !wG x n) && xx (some n) l
end
theorem Wx (last : Option za) (n : za) (l : List za) : xx last (n :: l) = (qh n && (match last with | none => true | some x => !wG x n) && xx (some n) l) := by cases last <;> simp only [xx]
theorem abI (last : Option za) : xx last [] = true := by cases last <;> simp only [xx]
theorem vW (n : za) : qh n = if isT n = true then (decide (n.Text ≠ []) && Lib.validD n.Text && jD n.Marks && decide (n.zq.length + n.Kids.length = 0)) else (n.zq.all (fun x => isValue x.Value) && isName n.Kind && decide (n.Text = []) && decide (n.Marks = []) && jD (n.zq.map (·.Name)) && xx none n.Kids) := by
 cases n; simp only [qh, isT]; rfl
theorem agj {a : zf} : ∀ {l : List zf}, a ∈ l → a.Name.length + a.Value.length ≤ wo l
 | x :: l, h => by
  simp only [wo]
  rcases List.mem_cons.1 h with rfl | h
  ·omega
  ·have := agj h; omega
theorem acF (l : List zf) : l.length ≤ wo l := by
 induction l with
 | nil => simp
 | cons s l ih => simp only [List.length_cons, wo]; omega
theorem ai2 : ∀ (l : List zf) (i : Int) (out : List Str), (out.length + l.length) * 16 ≤ 140737488355328 → wo l ≤ 1099511627776 → vF l i out = some (if l.all (fun x => isValue x.Value) = true then .inr (out ++ l.map (·.Name)) else .inl false)
 | [], i, out, _, _ => by simp [vF]
 | a :: l, i, out, hb, hw => by
  simp only [wo] at hw
  simp only [List.length_cons] at hb
  rw [vF, amo _ (by omega)]
  simp only [Option.bind_some]
  rcases Bool.eq_false_or_eq_true (isValue a.Value) with hv | hv
  rotate_left
  ·simp [hv]
  ·simp only [hv, Bool.not_true, Bool.false_eq_true, if_false, List.all_cons, Bool.true_and]
   rw [wW (by simp; omega)]
   simp only [Option.bind_some]
   rw [ai2 l _ _ (by simp; omega) (by omega)]
   simp
theorem ajq (n : za) (f : za → Option Bool) : ∀ (suf pre : List za), n.Kids = pre ++ suf → (∀ k ∈ suf, f k = some (qh k)) → zM n.Kids ≤ 1099511627776 → kH n f suf (pre.length : Int) = some (alH (xx pre.getLast? suf))
 | [], pre, _, _, _ => by simp [kH, abI, alH]
 | y :: suf, pre, hk, hf, hw => by
  have e : (pre.length : Int) + 1 = ((pre ++ [y]).length : Int) := by simp
  have ih := ajq n f suf (pre ++ [y]) (by rw [hk]; simp) (fun s hs => hf s (by simp [hs])) hw
  rw [← e, List.getLast?_append, List.getLast?_singleton] at ih
  simp only [Option.some_or] at ih
  rw [kH, hf y (by simp)]
  simp only [Option.bind_some]
  rw [Wx]
  rcases Bool.eq_false_or_eq_true (qh y) with hn | hn
  rotate_left
  ·simp [hn, alH]
  ·rw [hn]
   simp only [Bool.not_true, Bool.false_eq_true, if_false, Bool.true_and]
   rcases kz pre with rfl | ⟨p, x, rfl⟩
   ·have g : decide ((([] : List za).length : Int) > 0) = false := by decide
    simp only [g, Bool.false_eq_true, if_false]
    rw [ih]
    simp
   ·have g : decide (((p ++ [x]).length : Int) > 0) = true := decide_eq_true (by simp only [List.length_append, List.length_cons, List.length_nil]; omega)
    have hl := kv n.Kids
    have hr : rd n.Kids (w64 (((p ++ [x]).length : Int) - 1)) = some x := by
     rw [hk] at hl ⊢
     simp only [List.length_append, List.length_cons, List.length_nil] at hl
     rw [qx (by simp; rw [hk] at hw; omega)]
     have e2 : ((p ++ [x]).length : Int) - 1 = (p.length : Int) := by simp
     rw [e2, List.append_assoc]
     exact aee p (y :: suf) x
    have hx : nwt x ≤ zM n.Kids := Qe (by rw [hk]; simp)
    have hxw := qQ x
    have hxm := afS x.Marks
    simp only [g, if_true, hr, Option.bind_some, List.getLast?_append, List.getLast?_singleton, Option.some_or]
    rw [amN x y (by omega)]
    simp only [Option.bind_some]
    rcases Bool.eq_false_or_eq_true (wG x y) with hc | hc
    ·simp only [hc, if_true, Bool.not_true, Bool.false_and, alH]
    ·simp only [hc, Bool.false_eq_true, if_false, Bool.not_false, Bool.true_and]
     exact ih
theorem asl (n : za) : nwt n ≤ 1099511627776 → ∀ kr, QZ n ≤ kr → kS kr n = some (qh n) := by
 induction n using za.ind with
 | h n ih =>
  intro hw kr hk
  have hd := yG n
  obtain ⟨kr, rfl⟩ : ∃ j, kr = j + 1 := ⟨kr - 1, by omega⟩
  have hwt := qQ n
  have hl := kv n.Kids
  have hm := afS n.Marks
  have ha := acF n.zq
  rw [kS, KM, vW]
  simp only [Option.bind_some]
  by_cases ht : isT n = true
  ·simp only [ht, if_true]
   by_cases h1 : n.Text = []
   ·simp [h1]
   ·have g1 : (n.Text == []) = false := by simpa using h1
    simp only [g1, Bool.not_false, if_true]
    unfold wM
    rw [qf (by omega)]
    simp only [Option.bind_some]
    cases hv : Lib.validD n.Text with
    | false => simp
    | true =>
     simp only [if_true]
     rw [aoD _ (fun s hs => by have := ajc hs; omega) (by omega)]
     simp only [Option.bind_some]
     rw [qx (by omega)]
     cases hr : jD n.Marks with
     | false => simp
     | true =>
      simp only [if_true, ne_eq, h1, not_false_eq_true, decide_true, Bool.true_and, Option.some.injEq]
      rw [Bool.eq_iff_iff]
      simp only [beq_iff_eq, decide_eq_true_eq]
      omega
  ·simp only [ht, Bool.false_eq_true, if_false]
   rw [qf (by omega), ai2 _ _ _ (by simp; omega) (by omega)]
   simp only [Option.bind_some]
   cases hv : n.zq.all (fun x => isValue x.Value) with
   | false => simp
   | true =>
    simp only [if_true, List.nil_append, Bool.true_and]
    rw [aci _ (by omega)]
    simp only [Option.bind_some]
    cases h2 : isName n.Kind with
    | false => simp
    | true =>
     simp only [Bool.not_true, Bool.false_eq_true, if_false, Bool.true_and]
     by_cases h3 : n.Text = []
     ·by_cases h4 : n.Marks = []
      ·have g4 : decide ((n.Marks.length : Int) > 0) = false := by simp [h4]
       have g3 : (n.Text == []) = true := by simp [h3]
       simp only [g3, Bool.not_true, Bool.false_eq_true, if_false, g4]
       rw [aoD _ (fun s hs => by
        obtain ⟨a, ha', rfl⟩ := List.mem_map.1 hs
        have := agj ha'; omega) (by simp; omega)]
       simp only [Option.bind_some]
       cases hr : jD (n.zq.map (·.Name)) with
       | false => simp
       | true =>
        simp only [Bool.not_true, Bool.false_eq_true, if_false]
        have h0 := ajq n (kS kr) n.Kids [] rfl (fun k hkk => ih k hkk (by have := Qe hkk; omega) kr (by have := yR hkk; omega)) (by omega)
        have h0' : kH n (kS kr) n.Kids 0 = _ := h0
        rw [qf (by omega), h0']
        simp only [Option.bind_some, List.getLast?_nil, h3, h4, decide_true, Bool.true_and]
        cases xx none n.Kids <;> rfl
      ·have g4 : decide ((n.Marks.length : Int) > 0) = true := by
        have := List.length_pos_iff.2 h4
        simp; omega
       have g3 : (n.Text == []) = true := by simp [h3]
       simp only [g3, Bool.not_true, Bool.false_eq_true, if_false, g4, if_true]
       simp [h4]
     ·have g3 : (n.Text == []) = false := by simpa using h3
      simp only [g3, Bool.not_false, if_true]
      simp [h3]
theorem apZ (n : za) (h : nwt n ≤ 1099511627776) : WJ n = some (qh n) := by
 unfold WJ
 exact Zj (QZ n) fun kr hk => asl n h kr hk
mutual
def xS : za → Nat
 | ⟨k, _, _, _, ks⟩ => if (k == ve) = true then 0 else wF ks + 1
def wF : List za → Nat
 | [] => 0
 | n :: l => max (xS n) (wF l)
end
theorem Z6 (n : za) : xS n = if isT n = true then 0 else wF n.Kids + 1 := by cases n; simp only [xS, isT]; rfl
theorem amA : ∀ (l : List za), (∀ n ∈ l, xS n ≤ QZ n) → wF l ≤ kE l
 | [], _ => by simp [wF, kE]
 | n :: l, h => by
  have h1 := h n (by simp)
  have h2 := amA l fun x hx => h x (by simp [hx])
  simp only [wF, kE]; omega
theorem ao5 (n : za) : xS n ≤ QZ n := by
 induction n using za.ind with
 | h n ih =>
  have h1 := amA n.Kids ih
  rw [Z6, yG]
  split <;> omega
theorem aia (l : List za) (h : ∀ n ∈ l, QZ n ≤ nwt n) : kE l ≤ zM l := by
 induction l with
 | nil => simp [kE, zM]
 | cons k l ih =>
  have h1 := h k (by simp)
  have h2 := ih fun x hx => h x (by simp [hx])
  simp only [kE, zM]; omega
theorem ao6 (n : za) : QZ n ≤ nwt n := by
 induction n using za.ind with
 | h n ih =>
  have h1 := aia n.Kids ih
  have h2 := yG n
  have h3 := qQ n
  omega
theorem amf (f : za → Option Int) : ∀ (l : List za) (i : Int) (d : Nat), (∀ k ∈ l, f k = some (xS k : Int)) → vC f l i (d : Int) = some ((max d (wF l) : Nat) : Int)
 | [], i, d, _ => by simp [vC, wF]
 | n :: l, i, d, h => by
  rw [vC, h n (by simp)]
  simp only [Option.bind_some]
  have e : (if (xS n : Int) > (d : Int) then (xS n : Int) else (d : Int)) = ((max d (xS n) : Nat) : Int) := by split <;> omega
  rw [e, amf f l _ _ fun k hk => h k (by simp [hk])]
  simp only [wF, Option.some.injEq]
  omega
theorem atf (n : za) : nwt n ≤ 1099511627776 → ∀ kr, QZ n ≤ kr → vv kr n = some (xS n : Int) := by
 induction n using za.ind with
 | h n ih =>
  intro hw kr hk
  have hd := yG n
  obtain ⟨kr, rfl⟩ : ∃ j, kr = j + 1 := ⟨kr - 1, by omega⟩
  have hwt := qQ n
  have hl := kv n.Kids
  have hdl := ao5 n
  have hdw := ao6 n
  rw [vv, KM]
  simp only [Option.bind_some]
  by_cases ht : isT n = true
  ·simp [ht, Z6 n]
  ·have e := Z6 n
   rw [if_neg ht] at e
   simp only [ht, Bool.false_eq_true, if_false]
   have h0 := amf (vv kr) n.Kids 0 0 (fun k hkk => ih k hkk (by have := Qe hkk; omega) kr (by have := yR hkk; omega))
   have h0' : vC (vv kr) n.Kids 0 0 = _ := h0
   rw [qf (by omega), h0']
   simp only [Option.bind_some, Nat.zero_max]
   rw [qx (by omega), e]
   rfl
theorem arf (n : za) (h : nwt n ≤ 1099511627776) : Ve n = some (xS n : Int) := by
 unfold Ve
 exact Zj (QZ n) fun kr hk => atf n h kr hk
def checkN (n : za) : Int := if qh n = false then 2 else if 40 < xS n then 4 else if 4000 < wE n then 5 else 0
theorem Yj (n : za) (h : nwt n ≤ 1099511627776) : yh n = some (checkN n) := by
 unfold yh checkN
 rw [apZ n h]
 simp only [Option.bind_some]
 cases hf : qh n with
 | false => simp
 | true =>
  simp only [Bool.not_true, Bool.false_eq_true, if_false]
  rw [arf n h]
  simp only [Option.bind_some]
  by_cases hd : 40 < xS n
  ·have g : decide ((xS n : Int) > 40) = true := by simp; omega
   simp [g, hd]
  ·have g : decide ((xS n : Int) > 40) = false := by simp; omega
   simp only [g, Bool.false_eq_true, if_false]
   rw [size_eq n h]
   simp only [Option.bind_some, hd, if_false]
   by_cases hs : 4000 < wE n
   ·have g : decide ((wE n : Int) > 4000) = true := by simp; omega
    simp [g, hs]
   ·have g : decide ((wE n : Int) > 4000) = false := by simp; omega
    simp only [g, Bool.false_eq_true, if_false, hs]
    simp
end Go.Proofs.YtclohbgnaopjfaaGreatDoor
namespace Go.Proofs.YtclohbgnaopjfaaGreatDoor
set_option linter.unusedSimpArgs false
set_option linter.unusedVariables false
open Go
theorem ajL (p : List za) (x n : za) (hx : isT x = true) (hn : isT n = true) (hm : x.Marks = n.Marks) (ha : x.zq = n.zq) (hk : x.Kids = n.Kids) : joinStep (joinStep p x) n = joinStep p { n with Text := x.Text ++ n.Text } := by
 have hkd : x.Kind = n.Kind := by
  have h1 : x.Kind = ve := by simpa [isT] using hx
  have h2 : n.Kind = ve := by simpa [isT] using hn
  rw [h1, h2]
 have hxn : ({ n with Text := x.Text ++ n.Text } : za).Marks = n.Marks := rfl
 have hnt : isT { n with Text := x.Text ++ n.Text } = true := hn
 by_cases hx0 : x.Text = []
 ·have e1 : joinStep p x = p := by unfold joinStep; simp [hx, hx0]
  have e2 : ({ n with Text := x.Text ++ n.Text } : za) = n := by cases n; simp [hx0]
  rw [e1, e2]
 ·by_cases hn0 : n.Text = []
  ·have e1 : ∀ o, joinStep o n = o := fun o => by unfold joinStep; simp [hn, hn0]
   have e2 : ({ n with Text := x.Text ++ n.Text } : za) = x := by cases x; cases n; simp_all
   rw [e1, e2]
  ·have hxn0 : (({ n with Text := x.Text ++ n.Text } : za).Text == []) = false := by simp [hx0]
   have hx0' : (x.Text == []) = false := by simpa using hx0
   have hn0' : (n.Text == []) = false := by simpa using hn0
   rcases kz p with rfl | ⟨p, y, rfl⟩
   ·rw [vw, vw]
    simp only [hx0', Bool.and_false, Bool.false_eq_true, if_false, hxn0]
    have := wN [] x n
    rw [List.nil_append] at this
    rw [this]
    simp [hn, hx, hn0', hm]
   ·rw [wN, wN]
    simp only [hx0', Bool.and_false, Bool.false_eq_true, if_false, hxn0, hx, hnt, Bool.true_and]
    by_cases hc : (isT y && decide (y.Marks = n.Marks)) = true
    ·have hc' : (isT y && decide (y.Marks = x.Marks)) = true := by rw [hm]; exact hc
     rw [if_pos hc', if_pos hc, wN]
     have hxt : ∀ m, isT { x with Text := y.Text ++ x.Text, Marks := m } = true := fun _ => hx
     simp [hn, hn0', hxt, hm, List.append_assoc]
    ·have hc' : ¬ (isT y && decide (y.Marks = x.Marks)) = true := by rw [hm]; exact hc
     rw [if_neg hc', if_neg hc]
     have := wN (p ++ [y]) x n
     rw [List.append_assoc] at this
     rw [List.singleton_append] at this
     rw [this]
     simp [hn, hx, hn0', hm]
def Plain (n : za) : Prop := isT n = true → n.zq = [] ∧ n.Kids = []
end Go.Proofs.YtclohbgnaopjfaaGreatDoor
namespace Go.Proofs.YtclohbgnaopjfaaGreatDoor
set_option linter.unusedSimpArgs false
set_option linter.unusedVariables false
open Go
theorem api : ∀ (l : List za) (i : Int) (o : List za), zM o + zM l ≤ 1099511627776 → qb l i o = some (l.foldl joinStep o)
 | [], i, o, _ => by simp [qb]
 | n :: l, i, o, hw => by
  simp only [zM] at hw
  have hjw := Ym o n
  have ih := api l (i + 1) (joinStep o n) (by omega)
  have hol := kv o
  rw [qb, List.foldl_cons]
  have eapp : app 104 o [n] = some (o ++ [n]) := wW (by simp; omega)
  rcases kz o with rfl | ⟨o, x, rfl⟩
  ·rw [vw] at ih ⊢
   by_cases ht : isT n = true
   ·have ht' : (n.Kind == ve) = true := ht
    by_cases he : n.Text = []
    ·simp only [ht, he, Bool.true_and, beq_self_eq_true, if_true] at ih ⊢
     simp only [ht', if_true, Option.bind_some]
     exact ih
    ·have he' : (n.Text == []) = false := by simp [he]
     simp only [ht, he', Bool.true_and, Bool.false_eq_true, if_false] at ih ⊢
     simp only [ht', he', Bool.false_eq_true, if_true, if_false, Option.bind_some, List.length_nil]
     have hneg : decide (w64 ((0 : Nat) - 1 : Int) ≥ 0) = false := by rw [qx (by omega)]; simp
     simp only [hneg, Bool.false_eq_true, if_false, eapp, Option.bind_some]
     exact ih
   ·have ht' : (n.Kind == ve) = false := by simpa [isT] using ht
    have ht2 : isT n = false := by simpa using ht
    simp only [ht2, Bool.false_and, Bool.false_eq_true, if_false] at ih ⊢
    simp only [ht', Bool.false_eq_true, if_false, Option.bind_some, eapp]
    exact ih
  ·rw [wN] at ih ⊢
   have hx : rd (o ++ [x]) (w64 (((o ++ [x]).length : Int) - 1)) = some x := by
    rw [qx (by simp at hol ⊢; omega)]
    have : ((o ++ [x]).length : Int) - 1 = (o.length : Int) := by simp
    rw [this]
    exact aee o [] x
   have hsl : sl (o ++ [x]) 0 (w64 (((o ++ [x]).length : Int) - 1)) = some o := by
    rw [qx (by simp at hol ⊢; omega)]
    have : ((o ++ [x]).length : Int) - 1 = (o.length : Int) := by simp
    rw [this]
    exact as2 o [x]
   have hpos : decide (w64 (((o ++ [x]).length : Int) - 1) ≥ 0) = true := by
    rw [qx (by simp at hol ⊢; omega)]
    simp
   have hwx : nwt x ≤ zM (o ++ [x]) := Qe (by simp)
   have hx1 := qQ x
   have hn1 := qQ n
   by_cases ht : isT n = true
   ·have ht' : (n.Kind == ve) = true := ht
    by_cases he : n.Text = []
    ·simp only [ht, he, Bool.true_and, beq_self_eq_true, if_true] at ih ⊢
     simp only [ht', if_true, Option.bind_some]
     exact ih
    ·have he' : (n.Text == []) = false := by simp [he]
     simp only [ht, he', Bool.true_and, Bool.false_eq_true, if_false] at ih ⊢
     simp only [ht', he', Bool.false_eq_true, if_true, if_false, Option.bind_some, hpos, hx]
     by_cases hxt : isT x = true
     ·have hxt' : (x.Kind == ve) = true := hxt
      have hml : x.Marks.length ≤ 9223372036854775807 := by
       have : ∀ l : List Str, l.length ≤ qX l := by
        intro l; induction l with
        | nil => simp
        | cons s l ih => simp [qX]; omega
       have := this x.Marks
       omega
      simp only [hxt', if_true]
      rw [akn _ _ hml]
      simp only [Option.bind_some, hxt, Bool.true_and] at ih ⊢
      by_cases hm : x.Marks = n.Marks
      ·simp only [hm, decide_true, if_true] at ih ⊢
       rw [qf (by omega), hsl]
       simp only [Option.bind_some]
       have hol2 := kv (o ++ [x])
       simp only [List.length_append, List.length_cons, List.length_nil] at hol2
       rw [wW (by simp; omega)]
       simp only [Option.bind_some, List.nil_append]
       rw [wW (by simp; omega)]
       simp only [Option.bind_some]
       exact ih
      ·simp only [hm, decide_false, Bool.false_eq_true, if_false] at ih ⊢
       rw [eapp]
       simp only [Option.bind_some, List.append_assoc, List.cons_append, List.nil_append]
       exact ih
     ·have hxt' : (x.Kind == ve) = false := by simpa [isT] using hxt
      have hx2 : isT x = false := by simpa using hxt
      simp only [hx2, Bool.false_and, Bool.false_eq_true, if_false] at ih ⊢
      simp only [hxt', Bool.false_eq_true, if_false, eapp, Option.bind_some, List.append_assoc, List.cons_append, List.nil_append]
      exact ih
   ·have ht' : (n.Kind == ve) = false := by simpa [isT] using ht
    have ht2 : isT n = false := by simpa using ht
    simp only [ht2, Bool.false_and, Bool.false_eq_true, if_false] at ih ⊢
    simp only [ht', Bool.false_eq_true, if_false, Option.bind_some, eapp, List.append_assoc, List.cons_append, List.nil_append]
    exact ih
theorem join_eq (l : List za) (h : zM l ≤ 1099511627776) : xg l = some (xG l) := by
 have hl := kv l
 unfold xg
 rw [qf (by omega), api l 0 [] (by simpa [zM] using h)]
 rfl
end Go.Proofs.YtclohbgnaopjfaaGreatDoor
namespace Go.Proofs.YtclohbgnaopjfaaGreatDoor
set_option linter.unusedSimpArgs false
set_option linter.unusedVariables false
open Go
abbrev asV : List Str := [[97], [98, 99], [195, 169], [120, 32, 121], [230, 151, 165, 230, 156, 172]]
abbrev avc : List Str := [[112, 97, 114, 97], [105, 116, 101, 109], [108, 105, 115, 116], [110, 111, 116, 101]]
abbrev avr : Str := [97, 108, 105, 103, 110]
def av2 (t : Str) : Prop := t ≠ [] ∧ ∃ l : List Str, (∀ x ∈ l, x ∈ asV) ∧ t = l.flatten
def auX (m : List Str) : Prop := m = [] ∨ m = [[98]] ∨ m = [[98], [105]]
def avl (a : List zf) : Prop := a = [] ∨ ∃ v ∈ asV, a = [⟨avr, v⟩]
inductive MN : za → Prop
 | text (t : Str) (m : List Str) (ht : av2 t) (hm : auX m) : MN ⟨ve, t, m, [], []⟩
 | node (k : Str) (a : List zf) (ks : List za) (hk : k ∈ avc) (ha : avl a) (hs : ∀ x ∈ ks, MN x) (hj : vE ks) : MN ⟨k, [], [], a, ks⟩
theorem aoo : ∀ (o : List za) (x n : za), vE (o ++ [x]) → wG x n = false → vE (o ++ [x, n])
 | [], x, n, _, h => ⟨h, trivial⟩
 | [a], x, n, h1, h => ⟨h1.1, h, trivial⟩
 | a :: b :: o, x, n, h1, h => ⟨h1.1, aoo (b :: o) x n h1.2 h⟩
theorem Y7 (a b : List za) : kE (a ++ b) = max (kE a) (kE b) := by
 induction a with
 | nil => simp [kE]
 | cons n a ih => simp only [List.cons_append, kE, ih]; omega
structure avd (i : Nat) (o : List za) : Prop where
 mn : ∀ x ∈ o, MN x
 wt : zM o ≤ 24 * i
 dep : kE o ≤ i
theorem avd.snoc {i : Nat} {o : List za} (h : avd i o) {n : za} (hn : MN n) (hw : nwt n ≤ 24) (hd : QZ n ≤ 1) : avd (i + 1) (o ++ [n]) := by
 refine ⟨fun x hx => ?_, ?_, ?_⟩
 ·rcases List.mem_append.1 hx with hx | hx
  ·exact h.mn x hx
  ·simp at hx; subst hx; exact hn
 ·have := h.wt; simp only [kV, zM]; omega
 ·have := h.dep; simp only [Y7, kE]; omega
end Go.Proofs.YtclohbgnaopjfaaGreatDoor
namespace Go.Proofs.YtclohbgnaopjfaaGreatDoor
set_option linter.unusedSimpArgs false
set_option linter.unusedVariables false
open Go
theorem abX (s : Str) (g : Value → Int) (hg : ∀ n, g (.int .i32 n) = n) : ∀ (f pos : Nat) (acc : Array Value), (Conv.runesFrom ⟨s.toArray⟩ f pos acc).toList.map g = acc.toList.map g ++ (Conv.runesFrom ⟨s.toArray⟩ f pos #[]).toList.map g
 | 0, pos, acc => by simp [Conv.runesFrom]
 | f + 1, pos, acc => by
  unfold Conv.runesFrom
  split
  ·rw [abX s g hg f _ (acc.push _), abX s g hg f _ (#[].push _)]
   simp
  ·simp
def rn : Nat → Str → List Int
 | 0, _ => []
 | f + 1, s => if s = [] then [] else ((Lib.decodeL s).1 : Int) :: rn f (s.drop (Lib.decodeL s).2)
theorem aly (s : Str) (g : Value → Int) (hg : ∀ n, g (.int .i32 n) = n) : ∀ (f pos : Nat), (Conv.runesFrom ⟨s.toArray⟩ f pos #[]).toList.map g = rn f (s.drop pos)
 | 0, pos => by simp [Conv.runesFrom, rn]
 | f + 1, pos => by
  unfold Conv.runesFrom rn
  have hz : ByteArray.size ⟨s.toArray⟩ = s.length := by simp [ByteArray.size]
  by_cases h : pos < s.length
  ·have hne : s.drop pos ≠ [] := by simp; omega
   have hd : Lib.decodeL (s.drop pos) = Utf8.decode ⟨s.toArray⟩ pos := by
    have := Lib.decodeL_drop ⟨s.toArray⟩ pos
    simpa using this
   rw [if_pos (by rw [hz]; exact h), if_neg hne, abX s g hg, aly s g hg f, hd, List.drop_drop]
   simp [hg]
  ·have hne : s.drop pos = [] := by simp; omega
   rw [if_neg (by rw [hz]; exact h), if_pos hne]
   simp
theorem adn (s : Str) : runes s = rn s.length s := by
 unfold runes
 rw [aly s _ (fun _ => rfl)]
 simp
def ahp (c : Nat) : List UInt8 :=
 if c < 0x80 then [UInt8.ofNat c]
 else if c < 0x800 then [UInt8.ofNat (0xC0 + c / 64), UInt8.ofNat (0x80 + c % 64)]
 else if c < 0x10000 then [UInt8.ofNat (0xE0 + c / 4096), UInt8.ofNat (0x80 + c / 64 % 64), UInt8.ofNat (0x80 + c % 64)]
 else [UInt8.ofNat (0xF0 + c / 262144), UInt8.ofNat (0x80 + c / 4096 % 64), UInt8.ofNat (0x80 + c / 64 % 64), UInt8.ofNat (0x80 + c % 64)]
theorem asD (r : Int) : zo r = ahp (if Utf8.valid r then r.toNat else Utf8.runeError) := by
 unfold zo Utf8.encode ahp
 generalize (if Utf8.valid r then r.toNat else Utf8.runeError) = c
 dsimp only
 by_cases h1 : c < 0x80
 ·rw [if_pos h1, if_pos h1]
 ·rw [if_neg h1, if_neg h1]
  by_cases h2 : c < 0x800
  ·rw [if_pos h2, if_pos h2]
  ·rw [if_neg h2, if_neg h2]
   by_cases h3 : c < 0x10000
   ·rw [if_pos h3, if_pos h3]
   ·rw [if_neg h3, if_neg h3]
theorem arV (c : Nat) : 1 ≤ (ahp c).length ∧ (ahp c).length ≤ 4 := by
 unfold ahp
 split
 ·simp
 ·split
  ·simp
  ·split <;> simp
theorem ap1 (c : Int) : 1 ≤ (zo c).length ∧ (zo c).length ≤ 4 := by rw [asD]; exact arV _
theorem va (r : Nat) (h : r < 55296 ∨ 57343 < r) (h' : r ≤ 1114111) : Utf8.valid (r : Int) = true := by
 unfold Utf8.valid
 rw [Bool.or_eq_true]
 rcases h with h | h
 ·left; rw [Bool.and_eq_true]
  exact ⟨decide_eq_true (by omega), decide_eq_true (by omega)⟩
 ·right; rw [Bool.and_eq_true]
  exact ⟨decide_eq_true (by omega), decide_eq_true (by omega)⟩
theorem vc (r : Nat) (h : 55296 ≤ r) (h' : r ≤ 57343) : Utf8.valid (r : Int) = false := by
 unfold Utf8.valid
 rw [Bool.or_eq_false_iff, Bool.and_eq_false_iff, Bool.and_eq_false_iff]
 exact ⟨.inr (decide_eq_false (by omega)), .inl (decide_eq_false (by omega))⟩
theorem aku (r : Nat) (h : r < 55296 ∨ 57343 < r) (h' : r ≤ 1114111) : zo (r : Int) = ahp r := by
 rw [asD, va r h h']
 rfl
theorem av4 (r : Nat) (h : r < 128) : zo (r : Int) = [UInt8.ofNat r] := by
 rw [aku r (by omega) (by omega), ahp, if_pos h]
theorem awd (r : Nat) (h : 128 ≤ r) (h' : r < 2048) : zo (r : Int) = [UInt8.ofNat (192 + r / 64), UInt8.ofNat (128 + r % 64)] := by
 rw [aku r (by omega) (by omega), ahp, if_neg (by omega), if_pos h']
theorem av5 (r : Nat) (h : 2048 ≤ r) (h' : r < 65536) (hv : r < 55296 ∨ 57343 < r) : zo (r : Int) = [UInt8.ofNat (224 + r / 4096), UInt8.ofNat (128 + r / 64 % 64), UInt8.ofNat (128 + r % 64)] := by
 rw [aku r hv (by omega), ahp, if_neg (by omega), if_neg (by omega), if_pos h']
theorem avK (r : Nat) (h : 65536 ≤ r) (h' : r ≤ 1114111) : zo (r : Int) = [UInt8.ofNat (240 + r / 262144), UInt8.ofNat (128 + r / 4096 % 64), UInt8.ofNat (128 + r / 64 % 64), UInt8.ofNat (128 + r % 64)] := by
 rw [aku r (by omega) h', ahp, if_neg (by omega), if_neg (by omega), if_neg (by omega)]
theorem awD (r : Nat) (h : 55296 ≤ r) (h' : r ≤ 57343) : zo (r : Int) = [239, 191, 189] := by
 rw [asD, vc r h h']
 simp only [Bool.false_eq_true, if_false, Utf8.runeError, ahp]
 rfl
theorem ar7 (r : Nat) (h : r ≤ 1114111) : zo (r : Int) = Lib.encodeRune (r : Int) := by
 unfold Lib.encodeRune Lib.encodeRuneZ
 by_cases h1 : r < 128
 ·rw [if_pos (show (0 : Int) ≤ (r : Int) ∧ (r : Int) ≤ 127 by omega), av4 r h1]
  simp only [List.map_cons, List.map_nil, Int.toNat_natCast]
 ·rw [if_neg (show ¬ ((0 : Int) ≤ (r : Int) ∧ (r : Int) ≤ 127) by omega)]
  by_cases h2 : r < 2048
  ·rw [if_pos (show (128 : Int) ≤ (r : Int) ∧ (r : Int) ≤ 2047 by omega), awd r (by omega) h2]
   have a1 : (192 + (r : Int) / 64).toNat = 192 + r / 64 := by omega
   have a2 : (128 + (r : Int) % 64).toNat = 128 + r % 64 := by omega
   simp only [List.map_cons, List.map_nil, a1, a2]
  ·rw [if_neg (show ¬ ((128 : Int) ≤ (r : Int) ∧ (r : Int) ≤ 2047) by omega)]
   by_cases hv : r < 55296 ∨ 57343 < r
   ·by_cases h3 : r < 65536
    ·rw [if_pos (show ((2048 : Int) ≤ (r : Int) ∧ (r : Int) < 55296) ∨ ((57343 : Int) < (r : Int) ∧ (r : Int) ≤ 65535) by omega), av5 r (by omega) h3 hv]
     have a1 : (224 + (r : Int) / 4096).toNat = 224 + r / 4096 := by omega
     have a2 : (128 + (r : Int) / 64 % 64).toNat = 128 + r / 64 % 64 := by omega
     have a3 : (128 + (r : Int) % 64).toNat = 128 + r % 64 := by omega
     simp only [List.map_cons, List.map_nil, a1, a2, a3]
    ·rw [if_neg (show ¬ (((2048 : Int) ≤ (r : Int) ∧ (r : Int) < 55296) ∨ ((57343 : Int) < (r : Int) ∧ (r : Int) ≤ 65535)) by omega), if_pos (show (65536 : Int) ≤ (r : Int) ∧ (r : Int) ≤ 1114111 by omega), avK r (by omega) h]
     have a1 : (240 + (r : Int) / 262144).toNat = 240 + r / 262144 := by omega
     have a2 : (128 + (r : Int) / 4096 % 64).toNat = 128 + r / 4096 % 64 := by omega
     have a3 : (128 + (r : Int) / 64 % 64).toNat = 128 + r / 64 % 64 := by omega
     have a4 : (128 + (r : Int) % 64).toNat = 128 + r % 64 := by omega
     simp only [List.map_cons, List.map_nil, a1, a2, a3, a4]
   ·rw [if_neg (show ¬ (((2048 : Int) ≤ (r : Int) ∧ (r : Int) < 55296) ∨ ((57343 : Int) < (r : Int) ∧ (r : Int) ≤ 65535)) by omega), if_neg (show ¬ ((65536 : Int) ≤ (r : Int) ∧ (r : Int) ≤ 1114111) by omega), awD r (by omega) (by omega)]
    rfl
theorem amD : ∀ (f : Nat) (s : Str), s.length ≤ f → (Lib.validD s = true → zK (rn f s) = s) ∧ (Lib.validD s = false → s.length < (zK (rn f s)).length)
 | 0, s, h => by
  have : s = [] := List.eq_nil_of_length_eq_zero (by omega)
  subst this
  exact ⟨fun _ => rfl, fun h => by rw [Lib.validD_nil] at h; cases h⟩
 | f + 1, s, h => by
  unfold rn
  by_cases hne : s = []
  ·subst hne
   exact ⟨fun _ => by simp [zK], fun h => by rw [Lib.validD_nil] at h; cases h⟩
  ·have hw := Lib.decodeL_width s
   have hl := Lib.decodeL_le s hne
   obtain ⟨ih1, ih2⟩ := amD f (s.drop (Lib.decodeL s).2) (by simp; omega)
   have e : zK (((Lib.decodeL s).1 : Int) :: rn f (s.drop (Lib.decodeL s).2)) = zo ((Lib.decodeL s).1 : Int) ++ zK (rn f (s.drop (Lib.decodeL s).2)) := by simp [zK]
   rw [if_neg hne, e, Lib.validD_step s hne]
   by_cases hb : (Lib.decodeL s).1 = 65533 ∧ (Lib.decodeL s).2 = 1
   ·rw [if_pos hb]
    refine ⟨fun h => (by cases h), fun _ => ?_⟩
    have e3 : (zo ((Lib.decodeL s).1 : Int)).length = 3 := by rw [hb.1]; rfl
    have e4 : (s.drop (Lib.decodeL s).2).length ≤ (zK (rn f (s.drop (Lib.decodeL s).2))).length := by
     cases hv : Lib.validD (s.drop (Lib.decodeL s).2) with
     | true => rw [ih1 hv]; exact Nat.le_refl _
     | false => exact Nat.le_of_lt (ih2 hv)
    rw [List.length_append, e3]
    rw [List.length_drop, hb.2] at e4
    rw [hb.2]
    omega
   ·rw [if_neg hb]
    have e5 : zo ((Lib.decodeL s).1 : Int) = s.take (Lib.decodeL s).2 := by rw [ar7 _ (Lib.decodeL_rune s)]; exact Lib.encode_decode s hne hb
    refine ⟨fun hv => by rw [ih1 hv, e5, List.take_append_drop], fun hv => ?_⟩
    have := ih2 hv
    rw [List.length_append, e5, List.length_take]
    rw [List.length_drop] at this
    omega
theorem WE {s : Str} (h : Lib.validD s = true) : zK (runes s) = s := by rw [adn]; exact (amD _ s (Nat.le_refl _)).1 h
theorem aaB (b : ByteArray) : ∀ (n i : Nat) (acc : Array Value), (Conv.runesFrom b n i acc).toList.length = acc.toList.length + Lib.runeCountFrom b n i
 | 0, i, acc => by simp [Conv.runesFrom, Lib.runeCountFrom]
 | n + 1, i, acc => by
  unfold Conv.runesFrom Lib.runeCountFrom
  split
  ·rename_i h
   rw [aaB b n _ _]
   simp; omega
  ·rfl
theorem yB (s : Str) : (runes s).length = aeh s := by
 unfold runes aeh Lib.runeCountL Lib.runeCount
 rw [List.length_map, aaB]
 simp [ByteArray.size]
end Go.Proofs.YtclohbgnaopjfaaGreatDoor
namespace Go.Proofs.YtclohbgnaopjfaaGreatDoor
set_option linter.unusedSimpArgs false
set_option linter.unusedVariables false
open Go
theorem aro : ∀ (l : List za) (last : Option za), (∀ x ∈ l, qh x = true) → vE l → (∀ x y, last = some x → l.head? = some y → wG x y = false) → xx last l = true
 | [], last, _, _, _ => abI last
 | y :: l, last, hf, hj, hl => by
  rw [Wx, hf y (by simp)]
  have h2 : xx (some y) l = true := by
   refine aro l (some y) (fun x hx => hf x (by simp [hx])) ?_ ?_
   ·cases l with
    | nil => trivial
    | cons z l => exact hj.2
   ·intro x z hx hz
    cases hx
    cases l with
    | nil => cases hz
    | cons z' l => cases hz; exact hj.1
  rw [h2]
  cases last with
  | none => rfl
  | some x => simp [hl x y rfl rfl]
theorem am1 {n : za} (h : qh n = true) (ht : isT n = false) : ∀ k ∈ n.Kids, qh k = true := by
 have key : ∀ (l : List za) (last : Option za), xx last l = true → ∀ k ∈ l, qh k = true := by
  intro l
  induction l with
  | nil => simp
  | cons y l ih =>
   intro last h k hk
   rw [Wx, Bool.and_eq_true, Bool.and_eq_true] at h
   rcases List.mem_cons.1 hk with rfl | hk
   ·exact h.1.1
   ·exact ih _ h.2 k hk
 rw [vW, if_neg (by simp [ht])] at h
 simp only [Bool.and_eq_true] at h
 exact key _ _ h.2
end Go.Proofs.YtclohbgnaopjfaaGreatDoor
namespace Go.Proofs.YtclohbgnaopjfaaGreatDoor
set_option linter.unusedSimpArgs false
set_option linter.unusedVariables false
open Go
theorem ae2 (s t : Str) (hne : s ≠ []) (hv : ¬ ((Lib.decodeL s).1 = 65533 ∧ (Lib.decodeL s).2 = 1)) : Lib.decodeL (s.take (Lib.decodeL s).2 ++ t) = Lib.decodeL s := by
 have hl : 0 < s.length := List.length_pos_iff.2 hne
 have hS := Lib.decodeL_N s
 rcases Lib.decodeN_shape s.length (s.getD 0 0).toNat (s.getD 1 0).toNat (s.getD 2 0).toNat (s.getD 3 0).toNat with ⟨h1, e⟩ | ⟨h1, h2, h3, h4, e⟩ | ⟨h1, h2, h3, h4, h5, h6, e⟩ | ⟨h1, h2, h3, h4, h5, h6, h7, e⟩ | e
 ·rw [hS, e]
  simp only
  rw [Lib.takeA s hl, Lib.decodeL_N]
  simp only [List.cons_append, List.getD_cons_zero]
  unfold Lib.decodeN
  rw [if_pos h1]
 ·rw [hS, e]
  simp only
  rw [Lib.takeB s h2, Lib.decodeL_N]
  simp only [List.cons_append, List.nil_append, List.getD_cons_zero, List.getD_cons_succ]
  unfold Lib.decodeN
  rw [if_neg (by omega), if_pos ⟨h1, by simp, h3⟩, if_pos (by omega)]
 ·rw [hS, e]
  simp only
  rw [Lib.takeC s h2, Lib.decodeL_N]
  simp only [List.cons_append, List.nil_append, List.getD_cons_zero, List.getD_cons_succ]
  unfold Lib.decodeN
  rw [if_neg (by omega), if_neg (by omega), if_pos ⟨h1, ⟨by simp, h3⟩, by simp, h4⟩, if_pos ⟨by omega, by omega⟩]
 ·rw [hS, e]
  simp only
  rw [Lib.takeD s h2, Lib.decodeL_N]
  simp only [List.cons_append, List.nil_append, List.getD_cons_zero, List.getD_cons_succ]
  unfold Lib.decodeN
  rw [if_neg (by omega), if_neg (by omega), if_neg (by omega), if_pos ⟨h1, ⟨by simp, h3⟩, ⟨by simp, h4⟩, by simp, h5⟩, if_pos ⟨by omega, by omega⟩]
 ·rw [hS, e] at hv
  simp at hv
def VR (c : Int) : Prop := (∀ t : Str, runes (zo c ++ t) = c :: runes t) ∧ ∀ t : Str, Lib.validD (zo c ++ t) = Lib.validD t
theorem alG : ∀ (f g : Nat) (s : Str), s.length ≤ f → s.length ≤ g → rn f s = rn g s
 | 0, 0, s, _, _ => rfl
 | 0, g + 1, s, hf, _ => by
  have : s = [] := List.eq_nil_of_length_eq_zero (by omega)
  subst this
  simp [rn]
 | f + 1, 0, s, _, hg => by
  have : s = [] := List.eq_nil_of_length_eq_zero (by omega)
  subst this
  simp [rn]
 | f + 1, g + 1, s, hf, hg => by
  unfold rn
  by_cases h : s = []
  ·simp [h]
  ·have h1 := Lib.decodeL_width s
   have h2 := Lib.decodeL_le s h
   rw [if_neg h, if_neg h, alG f g _ (by simp; omega) (by simp; omega)]
theorem QH : runes [] = [] := by rw [adn]; rfl
theorem abD (s : Str) (hne : s ≠ []) : runes s = ((Lib.decodeL s).1 : Int) :: runes (s.drop (Lib.decodeL s).2) := by
 rw [adn, adn]
 have h1 := Lib.decodeL_width s
 have h2 := Lib.decodeL_le s hne
 have hl : 0 < s.length := List.length_pos_iff.2 hne
 obtain ⟨n, hn⟩ : ∃ n, s.length = n + 1 := ⟨s.length - 1, by omega⟩
 rw [hn, rn, if_neg hne, alG n _ _ (by simp; omega) (Nat.le_refl _)]
theorem aul (s : Str) (hne : s ≠ []) (hv : ¬ ((Lib.decodeL s).1 = 65533 ∧ (Lib.decodeL s).2 = 1)) : VR ((Lib.decodeL s).1 : Int) ∧ zo ((Lib.decodeL s).1 : Int) = s.take (Lib.decodeL s).2 := by
 have e5 : zo ((Lib.decodeL s).1 : Int) = s.take (Lib.decodeL s).2 := by rw [ar7 _ (Lib.decodeL_rune s)]; exact Lib.encode_decode s hne hv
 have h1 := Lib.decodeL_width s
 have h2 := Lib.decodeL_le s hne
 have hlen : (s.take (Lib.decodeL s).2).length = (Lib.decodeL s).2 := by rw [List.length_take]; omega
 have hdr : ∀ t : Str, (s.take (Lib.decodeL s).2 ++ t).drop (Lib.decodeL s).2 = t := by
  intro t
  rw [List.drop_append_of_le_length (by omega), List.drop_of_length_le (by omega)]
  rfl
 refine ⟨⟨fun t => ?_, fun t => ?_⟩, e5⟩
 ·have hne' : zo ((Lib.decodeL s).1 : Int) ++ t ≠ [] := by
   intro h
   have := congrArg List.length h
   rw [List.length_append, e5, hlen, List.length_nil] at this
   omega
  rw [abD _ hne', e5, ae2 s t hne hv, hdr]
 ·have hne' : zo ((Lib.decodeL s).1 : Int) ++ t ≠ [] := by
   intro h
   have := congrArg List.length h
   rw [List.length_append, e5, hlen, List.length_nil] at this
   omega
  rw [Lib.validD_step _ hne', e5, ae2 s t hne hv, if_neg hv, hdr]
theorem auA : ∀ (f : Nat) (s : Str), s.length ≤ f → Lib.validD s = true → ∀ c ∈ runes s, VR c
 | 0, s, h, _, c, hc => by
  have : s = [] := List.eq_nil_of_length_eq_zero (by omega)
  subst this
  rw [QH] at hc
  cases hc
 | f + 1, s, h, hv, c, hc => by
  by_cases hne : s = []
  ·subst hne
   rw [QH] at hc
   cases hc
  ·rw [Lib.validD_step s hne] at hv
   by_cases hb : (Lib.decodeL s).1 = 65533 ∧ (Lib.decodeL s).2 = 1
   ·rw [if_pos hb] at hv; cases hv
   ·rw [if_neg hb] at hv
    have h1 := Lib.decodeL_width s
    rw [abD s hne] at hc
    rcases List.mem_cons.1 hc with rfl | hc
    ·exact (aul s hne hb).1
    ·exact auA f (s.drop (Lib.decodeL s).2) (by simp; omega) hv c hc
theorem agP {s : Str} (h : Lib.validD s = true) : ∀ c ∈ runes s, VR c := auA s.length s (Nat.le_refl _) h
theorem Ji (c : Int) (l : List Int) : zK (c :: l) = zo c ++ zK l := by simp [zK]
theorem JZ (a b : List Int) : zK (a ++ b) = zK a ++ zK b := by simp [zK]
theorem aep : ∀ (l : List Int) (t : Str), (∀ c ∈ l, VR c) → runes (zK l ++ t) = l ++ runes t ∧ Lib.validD (zK l ++ t) = Lib.validD t
 | [], t, _ => by simp [zK]
 | c :: l, t, h => by
  obtain ⟨h1, h2⟩ := aep l t fun x hx => h x (by simp [hx])
  obtain ⟨h3, h4⟩ := h c (by simp)
  rw [Ji, List.append_assoc, h3, h1, h4, h2]
  simp
theorem J3 {l : List Int} (h : ∀ c ∈ l, VR c) : runes (zK l) = l ∧ Lib.validD (zK l) = true := by
 have := aep l [] h
 simpa [QH, Lib.validD_nil] using this
theorem adP {s : Str} (t : Str) (h : Lib.validD s = true) : runes (s ++ t) = runes s ++ runes t ∧ Lib.validD (s ++ t) = Lib.validD t := by
 have := aep (runes s) t (agP h)
 rwa [WE h] at this
end Go.Proofs.YtclohbgnaopjfaaGreatDoor
namespace Go.Proofs.YtclohbgnaopjfaaGreatDoor
set_option linter.unusedSimpArgs false
set_option linter.unusedVariables false
open Go
inductive It where
 | sgn (c : Int) (m : List Str)
 | nod (n : za)
def itN (n : za) : List It := if isT n = true then (runes n.Text).map (fun c => It.sgn c n.Marks) else [.nod n]
def items : List za → List It
 | [] => []
 | n :: l => itN n ++ items l
theorem ZI (a b : List za) : items (a ++ b) = items a ++ items b := by
 induction a with
 | nil => rfl
 | cons n a ih => simp only [List.cons_append, items, ih, List.append_assoc]
def aic : It → Nat
 | .sgn _ _ => 1
 | .nod n => wE n
def szI : List It → Nat
 | [] => 0
 | i :: l => aic i + szI l
theorem Q9 (a b : List It) : szI (a ++ b) = szI a + szI b := by
 induction a with
 | nil => simp [szI]
 | cons n a ih => simp only [List.cons_append, szI, ih]; omega
theorem aox (cs : List Int) (m : List Str) : szI (cs.map fun c => It.sgn c m) = cs.length := by
 induction cs with
 | nil => rfl
 | cons c cs ih => simp only [List.map_cons, szI, aic, ih, List.length_cons]; omega
theorem akh (n : za) : szI (itN n) = wE n := by
 unfold itN
 rw [vV]
 cases h : isT n with
 | true => simp only [if_true]; rw [aox, yB]
 | false => simp only [Bool.false_eq_true, if_false, szI, aic]; rw [vV, h]; simp
theorem yD (l : List za) : szI (items l) = zD l := by
 induction l with
 | nil => rfl
 | cons n l ih => simp only [items, zD, Q9, akh, ih]
theorem YY : ∀ i : It, (∀ n, i = .nod n → isT n = false) → 1 ≤ aic i
 | .sgn _ _, _ => Nat.le_refl _
 | .nod n, h => by
  have := h n rfl
  simp only [aic]
  rw [vV, this]
  simp
  omega
def amV (i : It) : Prop := ∀ n, i = .nod n → isT n = false
theorem atC (n : za) : ∀ i ∈ itN n, amV i := by
 intro i hi m hm
 unfold itN at hi
 cases h : isT n with
 | true =>
  rw [h] at hi
  simp only [if_true, List.mem_map] at hi
  obtain ⟨c, _, rfl⟩ := hi
  cases hm
 | false =>
  rw [h] at hi
  simp only [Bool.false_eq_true, if_false, List.mem_singleton] at hi
  rw [hi] at hm
  cases hm
  exact h
theorem aab (l : List za) : ∀ i ∈ items l, amV i := by
 induction l with
 | nil => intro i hi; cases hi
 | cons n l ih =>
  intro i hi
  rcases List.mem_append.1 hi with hi | hi
  ·exact atC n i hi
  ·exact ih i hi
theorem ajz : ∀ (a a' b b' : List It), (∀ i ∈ a ++ b, amV i) → a ++ b = a' ++ b' → szI a = szI a' → a = a' ∧ b = b'
 | [], [], b, b', _, h, _ => ⟨rfl, h⟩
 | [], i :: a', b, b', hn, h, hs => by
  exfalso
  have := YY i (hn i (by rw [h]; simp))
  simp only [szI] at hs
  omega
 | i :: a, [], b, b', hn, h, hs => by
  exfalso
  have := YY i (hn i (by simp))
  simp only [szI] at hs
  omega
 | i :: a, j :: a', b, b', hn, h, hs => by
  simp only [List.cons_append, List.cons.injEq] at h
  obtain ⟨rfl, h⟩ := h
  simp only [szI] at hs
  obtain ⟨h1, h2⟩ := ajz a a' b b' (fun x hx => hn x (by simp at hx ⊢; exact .inr hx)) h (by omega)
  exact ⟨by rw [h1], h2⟩
def Gd (n : za) : Prop := isT n = true → Lib.validD n.Text = true ∧ n.zq = [] ∧ n.Kids = []
theorem Gd.plain {n : za} (h : Gd n) : Plain n := fun ht => (h ht).2
theorem JS {n : za} (h : isT n = true) : n.Kind = ve := by simpa [isT] using h
abbrev tN (t : Str) (m : List Str) : za := ⟨ve, t, m, [], []⟩
theorem arc {n : za} (h : Gd n) (ht : isT n = true) : n = tN n.Text n.Marks := by
 have h1 := JS ht
 obtain ⟨_, h2, h3⟩ := h ht
 cases n
 simp_all
def atd : It → za
 | .sgn c m => tN (zo c) m
 | .nod n => n
def canon (l : List It) : List za := xG (l.map atd)
theorem ajA (m : List Str) : ∀ (cs : List Int) (o : List za), ((cs.map fun c => It.sgn c m).map atd).foldl joinStep o = joinStep o (tN (zK cs) m)
 | [], o => by
  have : joinStep o (tN (zK []) m) = o := by unfold joinStep; rfl
  rw [this]
  rfl
 | c :: cs, o => by
  rw [List.map_cons, List.map_cons, List.foldl_cons, ajA m cs, Ji]
  exact ajL o (tN (zo c) m) (tN (zK cs) m) rfl rfl rfl rfl rfl
theorem ar0 {n : za} (h : Gd n) (o : List za) : ((itN n).map atd).foldl joinStep o = joinStep o n := by
 unfold itN
 cases ht : isT n with
 | true =>
  simp only [if_true]
  rw [ajA, WE (h ht).1, ← arc h ht]
 | false => rfl
theorem ahm : ∀ (l o : List za), (∀ x ∈ l, Gd x) → ((items l).map atd).foldl joinStep o = l.foldl joinStep o
 | [], o, _ => rfl
 | n :: l, o, h => by
  rw [items, List.map_append, List.foldl_append, ar0 (h n (by simp)), ahm l _ fun x hx => h x (by simp [hx])]
  rfl
theorem an8 {l : List za} (h : ∀ x ∈ l, Gd x) : xG l = canon (items l) := (ahm l [] h).symm
theorem Ya (o : List za) (n : za) (ho : ∀ x ∈ o, Gd x) (hn : Gd n) : items (joinStep o n) = items o ++ itN n ∧ ∀ x ∈ joinStep o n, Gd x := by
 have e1 : ∀ x, items [x] = itN x := fun x => by simp [items]
 have plain : items (o ++ [n]) = items o ++ itN n ∧ ∀ x ∈ o ++ [n], Gd x := by
  refine ⟨by rw [ZI, e1], fun x hx => ?_⟩
  rcases List.mem_append.1 hx with hx | hx
  ·exact ho x hx
  ·simp at hx; rw [hx]; exact hn
 by_cases hc : (isT n && n.Text == []) = true
 ·have e : joinStep o n = o := by unfold joinStep; rw [if_pos hc]
  rw [e]
  simp only [Bool.and_eq_true, beq_iff_eq] at hc
  refine ⟨?_, ho⟩
  unfold itN
  rw [if_pos hc.1, hc.2, QH]
  simp
 ·rcases kz o with rfl | ⟨o, x, rfl⟩
  ·rw [vw, if_neg hc]
   simpa using plain
  ·rw [wN, if_neg hc]
   by_cases hd : (isT n && isT x && decide (x.Marks = n.Marks)) = true
   ·rw [if_pos hd]
    simp only [Bool.and_eq_true, decide_eq_true_eq] at hd
    obtain ⟨⟨h1, h2⟩, h3⟩ := hd
    have hx := ho x (by simp) h2
    have hn' := hn h1
    have ht : isT ({ n with Text := x.Text ++ n.Text } : za) = true := h1
    obtain ⟨r1, r2⟩ := adP n.Text hx.1
    refine ⟨?_, fun y hy => ?_⟩
    ·rw [ZI, ZI, e1, e1, List.append_assoc]
     congr 1
     unfold itN
     rw [if_pos ht, if_pos h1, if_pos h2]
     simp only [r1, List.map_append, h3]
    ·rcases List.mem_append.1 hy with hy | hy
     ·exact ho y (by simp [hy])
     ·simp only [List.mem_singleton] at hy
      rw [hy]
      exact fun _ => ⟨by simp only [r2]; exact hn'.1, hn'.2⟩
   ·rw [if_neg hd]
    simpa [List.append_assoc] using plain
theorem ahk : ∀ (l o : List za), (∀ x ∈ o, Gd x) → (∀ x ∈ l, Gd x) → items (l.foldl joinStep o) = items o ++ items l ∧ ∀ x ∈ l.foldl joinStep o, Gd x
 | [], o, ho, _ => ⟨by simp [items], ho⟩
 | n :: l, o, ho, hl => by
  obtain ⟨h1, h2⟩ := Ya o n ho (hl n (by simp))
  obtain ⟨h3, h4⟩ := ahk l _ h2 fun x hx => hl x (by simp [hx])
  refine ⟨?_, h4⟩
  rw [List.foldl_cons, h3, h1, List.append_assoc]
  rfl
theorem aoc {l : List za} (h : ∀ x ∈ l, Gd x) : items (xG l) = items l ∧ ∀ x ∈ xG l, Gd x := by
 have := ahk l [] (by simp) h
 exact ⟨this.1.trans (by simp [items]), this.2⟩
def Jnd (l : List za) : Prop := vE l ∧ ∀ x ∈ l, isT x = true → x.Text ≠ []
theorem alr {a : za} {l : List za} (h : vE (a :: l)) : vE l := by
 cases l with
 | nil => trivial
 | cons b l => exact h.2
theorem aoB : ∀ (o : List za) (x n : za) (l : List za), vE (o ++ x :: n :: l) → wG x n = false
 | [], x, n, l, h => h.1
 | y :: o, x, n, l, h => aoB o x n l (alr (a := y) (l := o ++ x :: n :: l) h)
theorem ajB : ∀ (l o : List za), vE (o ++ l) → (∀ x ∈ l, isT x = true → x.Text ≠ []) → l.foldl joinStep o = o ++ l
 | [], o, _, _ => by simp
 | n :: l, o, h, hl => by
  have hn := hl n (by simp)
  have hc : ¬ (isT n && n.Text == []) = true := by
   simp only [Bool.and_eq_true, beq_iff_eq]
   rintro ⟨h1, h2⟩
   exact hn h1 h2
  have e : joinStep o n = o ++ [n] := by
   rcases kz o with rfl | ⟨o, x, rfl⟩
   ·rw [vw, if_neg hc]; rfl
   ·rw [wN, if_neg hc]
    have ha := aoB o x n l (by simpa using h)
    unfold wG at ha
    have : (isT n && isT x && decide (x.Marks = n.Marks)) = false := by rw [Bool.and_comm (isT n)]; exact ha
    rw [this]
    simp
  rw [List.foldl_cons, e, ajB l _ (by simpa using h) fun x hx => hl x (by simp [hx])]
  simp
theorem Jnd.join {l : List za} (h : Jnd l) : xG l = l := by
 have := ajB l [] h.1 h.2
 simpa [xG] using this
theorem Jnd.canon {l : List za} (h : Jnd l) (hg : ∀ x ∈ l, Gd x) : l = canon (items l) := by
 rw [← an8 hg, h.join]
theorem atv {a b : List za} (ha : Jnd a) (hb : Jnd b) (ga : ∀ x ∈ a, Gd x) (gb : ∀ x ∈ b, Gd x) (h : items a = items b) : a = b := by
 rw [ha.canon ga, hb.canon gb, h]
theorem adK : ∀ (a b : List za), vE (a ++ b) → vE a
 | [], _, _ => trivial
 | [x], _, _ => trivial
 | x :: y :: a, b, h => ⟨h.1, adK (y :: a) b h.2⟩
theorem aiF : ∀ (a b : List za), vE (a ++ b) → vE b
 | [], _, h => h
 | x :: a, b, h => aiF a b (alr (a := x) (l := a ++ b) h)
theorem agD : ∀ (a : List za) (x y : za), vE (a ++ [x]) → (∀ z, wG z y = wG z x) → vE (a ++ [y])
 | [], _, _, _, _ => trivial
 | [z], x, y, h, e => ⟨by rw [e]; exact h.1, trivial⟩
 | z :: w :: a, x, y, h, e => ⟨h.1, agD (w :: a) x y h.2 e⟩
theorem agY (x y : za) (l : List za) (h : vE (x :: l)) (e : ∀ z, wG y z = wG x z) : vE (y :: l) := by
 cases l with
 | nil => trivial
 | cons z l => exact ⟨by rw [e]; exact h.1, h.2⟩
end Go.Proofs.YtclohbgnaopjfaaGreatDoor
namespace Go.Proofs.YtclohbgnaopjfaaGreatDoor
set_option linter.unusedSimpArgs false
set_option linter.unusedVariables false
open Go
theorem aoS {α : Type} (o : List α) (x y : α) : wr (o ++ [x]) (o.length : Int) y = some (o ++ [y]) := by
 unfold wr
 rw [if_pos (by simp; omega)]
 simp
theorem alf : ∀ (l : List za) (i : Int) (o : List za), zM o + zM l ≤ 1099511627776 → wV l i o = some (l.foldl joinStep o)
 | [], i, o, _ => by simp [wV]
 | n :: l, i, o, hw => by
  simp only [zM] at hw
  have hjw := Ym o n
  have ih := alf l (i + 1) (joinStep o n) (by omega)
  have hol := kv o
  have eapp : app 104 o [n] = some (o ++ [n]) := wW (by simp; omega)
  rw [wV, List.foldl_cons, KM]
  simp only [Option.bind_some]
  rcases kz o with rfl | ⟨o, x, rfl⟩
  ·rw [vw] at ih ⊢
   have hneg : decide (w64 ((([] : List za).length : Int) - 1) ≥ 0) = false := by rw [qx (by simp)]; simp
   by_cases ht : isT n = true
   ·by_cases he : n.Text = []
    ·simp only [ht, he, Bool.true_and, beq_self_eq_true, if_true] at ih ⊢
     exact ih
    ·have he' : (n.Text == []) = false := by simp [he]
     simp only [ht, he', Bool.true_and, Bool.false_eq_true, if_false] at ih ⊢
     simp only [if_true, hneg, Bool.false_eq_true, if_false, eapp, Option.bind_some]
     exact ih
   ·have ht2 : isT n = false := by simpa using ht
    simp only [ht2, Bool.false_and, Bool.false_eq_true, if_false] at ih ⊢
    simp only [hneg, Bool.false_eq_true, if_false, eapp, Option.bind_some]
    exact ih
  ·rw [wN] at ih ⊢
   have hw1 : w64 (((o ++ [x]).length : Int) - 1) = (o.length : Int) := by
    rw [qx (by simp at hol ⊢; omega)]
    simp
   have hx : rd (o ++ [x]) (o.length : Int) = some x := aee o [] x
   have hpos : decide ((o.length : Int) ≥ 0) = true := by simp
   have hwx : nwt x ≤ zM (o ++ [x]) := Qe (by simp)
   have hx1 := qQ x
   have hn1 := qQ n
   have hxm := afS x.Marks
   have hal : wG x n = (isT n && isT x && decide (x.Marks = n.Marks)) := by unfold wG; rw [Bool.and_comm (isT x)]
   rw [hw1, hx]
   simp only [hpos, if_true, Option.bind_some]
   rw [amN x n (by omega), aoS]
   simp only [Option.bind_some, hal]
   by_cases ht : isT n = true
   ·by_cases he : n.Text = []
    ·simp only [ht, he, Bool.true_and, beq_self_eq_true, if_true] at ih ⊢
     exact ih
    ·have he' : (n.Text == []) = false := by simp [he]
     simp only [ht, he', Bool.true_and, Bool.false_eq_true, if_false, if_true] at ih ⊢
     cases hc : (isT x && decide (x.Marks = n.Marks)) with
     | true =>
      simp only [hc, if_true] at ih ⊢
      rw [qf (by omega)]
      exact ih
     | false =>
      simp only [hc, Bool.false_eq_true, if_false] at ih ⊢
      rw [eapp]
      simp only [Option.bind_some, List.append_assoc, List.cons_append, List.nil_append]
      exact ih
   ·have ht2 : isT n = false := by simpa using ht
    simp only [ht2, Bool.false_and, Bool.false_eq_true, if_false] at ih ⊢
    rw [eapp]
    simp only [Option.bind_some, List.append_assoc, List.cons_append, List.nil_append]
    exact ih
theorem adp (l : List za) (h : zM l ≤ 1099511627776) : Q0 l = some (xG l) := by
 have hl := kv l
 unfold Q0
 rw [qf (by omega), alf l 0 [] (by simpa [zM] using h)]
 rfl
end Go.Proofs.YtclohbgnaopjfaaGreatDoor
namespace Go.Proofs.YtclohbgnaopjfaaGreatDoor
set_option linter.unusedSimpArgs false
set_option linter.unusedVariables false
open Go
def up (q : List Nat) : List Int := q.map fun (i : Nat) => (i : Int)
theorem aqX : up [] = [] := rfl
theorem aj5 (i : Nat) (q : List Nat) : up (i :: q) = (i : Int) :: up q := rfl
theorem anZ (p q : List Nat) : up (p ++ q) = up p ++ up q := by simp [up]
theorem Jd (q : List Nat) : (up q).length = q.length := by simp [up]
theorem aq1 {p q : List Nat} (h : up p = up q) : p = q := by
 induction p generalizing q with
 | nil => cases q with
  | nil => rfl
  | cons b q => simp [up] at h
 | cons a p ih => cases q with
  | nil => simp [up] at h
  | cons b q =>
   simp only [aj5, List.cons.injEq] at h
   rw [ih h.2, Int.ofNat_inj.1 h.1]
abbrev afo : za := { Kind := ([] : Str), Text := ([] : Str), Marks := [], zq := [], Kids := [] }
theorem atp {α : Type} {l : List α} {b : Nat} (h : b ≤ l.length) : sl l 0 (b : Int) = some (l.take b) := by
 have := JX (l := l) (a := 0) (b := b) (by omega) h
 simpa using this
inductive At : za → List Nat → za → Nat → Prop
 | nil (n : za) : At n [] n 0
 | cons (n : za) (i : Nat) (k : za) (q : List Nat) (m : za) (a : Nat) (hi : n.Kids[i]? = some k) (hn : isT n = false) (hk : isT k = false) (h : At k q m a) : At n (i :: q) m (zD (n.Kids.take i) + 1 + a)
theorem Jw {l : List za} {i : Nat} {k : za} (h : l[i]? = some k) : l = l.take i ++ k :: l.drop (i + 1) := by
 obtain ⟨hi, rfl⟩ := List.getElem?_eq_some_iff.1 h
 simp
theorem ael {l : List za} {i : Nat} {k : za} (h : l[i]? = some k) : zD l = zD (l.take i) + wE k + zD (l.drop (i + 1)) := by
 conv => lhs; rw [Jw h]
 rw [Xt, zD]; omega
theorem afH {l : List za} {i : Nat} {k : za} (h : l[i]? = some k) : zM l = zM (l.take i) + nwt k + zM (l.drop (i + 1)) := by
 conv => lhs; rw [Jw h]
 rw [kV, zM]; omega
theorem agf (l : List za) (i : Nat) : zD (l.take i) ≤ zD l := by
 have := Xt (l.take i) (l.drop i)
 rw [List.take_append_drop] at this
 omega
theorem At.awU {n : za} {q m a} (h : At n q m a) (hn : isT n = false) : isT m = false := by
 induction h with
 | nil => exact hn
 | cons n i k q m a hi hn' hk h ih => exact ih hk
theorem At.sizes {n : za} {q m a} (h : At n q m a) : a + zD m.Kids ≤ zD n.Kids := by
 induction h with
 | nil => omega
 | cons n i k q m a hi hn hk h ih =>
  have h1 := ael hi
  have h2 := yl hk
  omega
theorem At.len {n : za} {q m a} (h : At n q m a) : q.length ≤ a := by
 induction h with
 | nil => simp
 | cons n i k q m a hi hn hk h ih => simp only [List.length_cons]; omega
theorem At.wt {n : za} {q m a} (h : At n q m a) : nwt m ≤ nwt n := by
 induction h with
 | nil => omega
 | cons n i k q m a hi hn hk h ih =>
  have h1 := afH hi
  have h2 := vN n
  omega
theorem At.dep {n : za} {q m a} (h : At n q m a) : QZ m ≤ QZ n := by
 induction h with
 | nil => omega
 | cons n i k q m a hi hn hk h ih =>
  have h1 := yR (List.mem_of_getElem? hi)
  have h2 := yG n
  omega
theorem At.snoc {n : za} {q m a} (h : At n q m a) {i k} (hi : m.Kids[i]? = some k) (hm : isT m = false) (hk : isT k = false) : At n (q ++ [i]) k (a + zD (m.Kids.take i) + 1) := by
 induction h with
 | nil n =>
  have := At.cons n i k [] k 0 hi hm hk (.nil k)
  simpa using this
 | cons n j x q m a hj hn hx h ih =>
  have := At.cons n j x _ _ _ hj hn hx (ih hi hm)
  have e : zD (n.Kids.take j) + 1 + a + zD (m.Kids.take i) + 1 = zD (n.Kids.take j) + 1 + (a + zD (m.Kids.take i) + 1) := by omega
  rw [e]
  exact this
theorem At.au9 {n : za} : ∀ {q : List Nat} {i k a}, At n (q ++ [i]) k a → ∃ m b, At n q m b ∧ m.Kids[i]? = some k ∧ isT m = false ∧ isT k = false ∧ a = b + zD (m.Kids.take i) + 1 := by
 intro q
 induction q generalizing n with
 | nil =>
  intro i k a h
  cases h with
  | cons _ _ x _ _ a hi hn hk h =>
   cases h
   exact ⟨n, 0, .nil n, hi, hn, hk, by omega⟩
 | cons j q ih =>
  intro i k a h
  cases h with
  | cons _ _ x _ _ a hi hn hk h =>
   obtain ⟨m, b, h1, h2, h3, h4, h5⟩ := ih h
   exact ⟨m, _, .cons n j x q m b hi hn hk h1, h2, h3, h4, by omega⟩
end Go.Proofs.YtclohbgnaopjfaaGreatDoor
namespace Go.Proofs.YtclohbgnaopjfaaGreatDoor
set_option linter.unusedSimpArgs false
set_option linter.unusedVariables false
open Go
theorem asB {n : za} {q m a} (h : At n q m a) : ∀ v, qK (up q) v n = some (.inr m) := by
 induction h with
 | nil n => intro v; rfl
 | cons n i k q m a hi hn hk h ih =>
  intro v
  have hl := (List.getElem?_eq_some_iff.1 hi).1
  have h1 : decide ((i : Int) < 0) = false := by simp
  have h2 : decide ((i : Int) ≥ (n.Kids.length : Int)) = false := by simp; omega
  rw [aj5, qK]
  simp only [Wd, h1, h2, hn, Bool.false_eq_true, if_false, xC hi, Option.bind_some, ih]
theorem Wp {n : za} {q m a} (h : At n q m a) (hm : isT m = false) (hq : q.length ≤ 9223372036854775807) : kZ n (up q) = some (m, 0) := by
 unfold kZ
 rw [Jd, qf hq, asB h]
 simp only [Option.bind_some, Wd, hm, Bool.false_eq_true, if_false]
theorem as1 {n : za} {q m a} (h : At n q m a) : ∀ v (t : Nat), nwt n ≤ 1099511627776 → t + a ≤ 4611686018427387904 → jv (up q) v (t : Int) n = some ((t + a : Nat) : Int) := by
 induction h with
 | nil n => intro v t _ _; rfl
 | cons n i k q m a hi hn hk h ih =>
  intro v t hw ht
  have hl := (List.getElem?_eq_some_iff.1 hi).1
  have h1 := afH hi
  have h2 := vN n
  have h3 := kM (n.Kids.take i)
  rw [aj5, jv, atp (by omega)]
  simp only [Option.bind_some]
  rw [Wn _ (by omega), xC hi]
  simp only [Option.bind_some]
  have e : w64 ((t : Int) + w64 ((zD (n.Kids.take i) : Int) + 1)) = ((t + (zD (n.Kids.take i) + 1) : Nat) : Int) := by
   rw [qx (x := (zD (n.Kids.take i) : Int) + 1) (by omega), qx (by omega)]
   omega
  rw [e, ih _ _ (by omega) (by omega)]
  simp only [Option.some.injEq]
  omega
theorem start_eq {n : za} {q m a} (h : At n q m a) (hm : isT m = false) (hw : nwt n ≤ 1099511627776) : WK n (up q) = some ((a : Int), 0) := by
 have h1 := h.len
 have h2 := h.sizes
 have h3 := kM n.Kids
 have h4 := vN n
 unfold WK
 rw [Wp h hm (by omega)]
 have := as1 h 0 0 hw (by omega)
 simp only [Option.bind_some, bne_self_eq_false, Bool.false_eq_true, if_false]
 rw [Jd, qf (by omega)]
 have e : ((0 : Nat) : Int) = 0 := rfl
 rw [e] at this
 rw [this]
 simp
def Je (n : za) (s : wz) (pos : Nat) : Prop :=
 ∃ q m a idx off, s = ⟨up q, ((idx : Nat) : Int), ((off : Nat) : Int)⟩ ∧ At n q m a ∧ isT m = false ∧ idx ≤ m.Kids.length ∧ a + zD (m.Kids.take idx) + off = pos ∧ (∀ k, m.Kids[idx]? = some k → off < wE k ∧ (0 < off → isT k = true)) ∧ (idx = m.Kids.length → off = 0)
theorem agu (path : List Int) (hp : path.length ≤ 1099511627776) : ∀ (suf : List za) (i pos : Nat), zM suf ≤ 1099511627776 → pos ≤ 1099511627776 → i + suf.length ≤ 9223372036854775807 →
    (zD suf ≤ pos ∧ qd path suf (i : Int) (pos : Int) = some (.inr (.inr ()))) ∨
    ∃ a k b r, suf = a ++ k :: b ∧ pos = zD a + r ∧ r < wE k ∧
      (((isT k = true ∨ r = 0) ∧ qd path suf (i : Int) (pos : Int) = some (.inl (⟨path, ((i + a.length : Nat) : Int), ((r : Nat) : Int)⟩, 0))) ∨
       (isT k = false ∧ 0 < r ∧ qd path suf (i : Int) (pos : Int) = some (.inr (.inl (((r - 1 : Nat) : Int), k, path ++ [((i + a.length : Nat) : Int)])))))
  | [], i, pos, _, _, _ => .inl ⟨by simp [zD], rfl⟩
  | y :: suf, i, pos, hw, hpos, hi => by
    simp only [zM] at hw
    have hy := adE y
    by_cases h : wE y ≤ pos
    · have step : qd path (y :: suf) (i : Int) (pos : Int) = qd path suf ((i + 1 : Nat) : Int) ((pos - wE y : Nat) : Int) := by
        rw [qd, size_eq y (by omega)]
        have : decide ((pos : Int) ≥ (wE y : Int)) = true := by simp; omega
        simp only [Option.bind_some, this, if_true]
        rw [qx (by omega)]
        congr 1
        omega
      simp only [List.length_cons] at hi
      rcases agu path hp suf (i + 1) (pos - wE y) (by omega) (by omega) (by omega) with ⟨h1, h2⟩ | ⟨a, k, b, r, h1, h2, h3, h4⟩
      · left
        exact ⟨by simp only [zD]; omega, by rw [step, h2]⟩
      · right
        have e : i + 1 + a.length = i + (y :: a).length := by simp; omega
        rw [e] at h4
        exact ⟨y :: a, k, b, r, by rw [h1]; rfl, by simp only [zD]; omega, h3, by rw [step]; exact h4⟩
    · right
      have hd : decide ((pos : Int) ≥ (wE y : Int)) = false := by simp; omega
      refine ⟨[], y, suf, pos, rfl, by simp [zD], by omega, ?_⟩
      rw [qd, size_eq y (by omega)]
      simp only [Option.bind_some, hd, Bool.false_eq_true, if_false, List.length_nil, Nat.add_zero]
      by_cases ht : isT y = true
      · left
        exact ⟨.inl ht, by simp only [Wd, ht, if_true]⟩
      · have ht' : isT y = false := by simpa using ht
        simp only [Wd, ht', Bool.false_eq_true, if_false]
        by_cases h0 : pos = 0
        · left
          subst h0
          exact ⟨.inr rfl, by simp⟩
        · right
          have : ((pos : Int) == 0) = false := by simp; omega
          refine ⟨trivial, by omega, ?_⟩
          simp only [this, Bool.false_eq_true, if_false]
          rw [wW (by simp; omega), qx (by omega)]
          simp only [Option.bind_some, Option.some.injEq, Sum.inr.injEq, Sum.inl.injEq, Prod.mk.injEq, and_true]
          omega
theorem ag2 (n0 : za) (hw0 : nwt n0 ≤ 1099511627776) : ∀ (d : Nat) (n : za) (q : List Nat) (a pos : Nat), QZ n ≤ d → At n0 q n a → isT n = false → pos ≤ zD n.Kids → ∃ s, Je n0 s (a + pos) ∧ ∀ k, d ≤ k → ku k (pos : Int) n (up q) = some (s, 0)
 | 0, n, q, a, pos, hd, _, _, _ => by have := yG n; omega
 | d + 1, n, q, a, pos, hd, hat, hn, hpos => by
  have h1 := hat.len
  have h2 := hat.sizes
  have h3 := kM n0.Kids
  have h4 := vN n0
  have h5 := hat.wt
  have h6 := vN n
  have h7 := kv n.Kids
  have h8 := kM n.Kids
  rcases agu (up q) (by rw [Jd]; omega) n.Kids 0 pos (by omega) (by omega) (by omega) with ⟨e1, e2⟩ | ⟨x, k, y, r, e1, e2, e3, e4⟩
  ·refine ⟨⟨up q, (n.Kids.length : Int), 0⟩, ⟨q, n, a, n.Kids.length, 0, rfl, hat, hn, by omega, by simp; omega, fun k hk => by simp at hk, fun _ => rfl⟩, fun k hk => ?_⟩
   obtain ⟨k, rfl⟩ : ∃ j, k = j + 1 := ⟨k - 1, by omega⟩
   rw [ku, qf (by omega)]
   have e2' : qd (up q) n.Kids 0 (pos : Int) = _ := e2
   rw [e2']
   rfl
  ·have hx : n.Kids[x.length]? = some k := by rw [e1]; simp
   have htk : n.Kids.take x.length = x := by rw [e1]; simp
   have hle : x.length < n.Kids.length := by rw [e1]; simp
   rw [Nat.zero_add] at e4
   rcases e4 with ⟨e4, e5⟩ | ⟨e4, e5, e6⟩
   ·refine ⟨⟨up q, (x.length : Int), (r : Int)⟩, ⟨q, n, a, x.length, r, rfl, hat, hn, by omega, by rw [htk]; omega, fun k' hk' => ?_, fun h => by omega⟩, fun k' hk => ?_⟩
    ·rw [hx] at hk'
     cases hk'
     exact ⟨e3, fun h => e4.resolve_right (by omega)⟩
    ·obtain ⟨k', rfl⟩ : ∃ j, k' = j + 1 := ⟨k' - 1, by omega⟩
     rw [ku, qf (by omega)]
     have e2' : qd (up q) n.Kids 0 (pos : Int) = _ := e5
     rw [e2']
     rfl
   ·have hs := yl e4
    have hdk := yR (List.mem_of_getElem? hx)
    have hdn := yG n
    obtain ⟨s, s1, s2⟩ := ag2 n0 hw0 d k (q ++ [x.length]) _ (r - 1) (by omega) (hat.snoc hx hn e4) e4 (by omega)
    refine ⟨s, ?_, fun k' hk => ?_⟩
    ·rw [htk] at s1
     have e : a + zD x + 1 + (r - 1) = a + pos := by omega
     rw [e] at s1
     exact s1
    ·obtain ⟨k', rfl⟩ : ∃ j, k' = j + 1 := ⟨k' - 1, by omega⟩
     rw [ku, qf (by omega)]
     have e2' : qd (up q) n.Kids 0 (pos : Int) = _ := e6
     rw [e2']
     simp only [Option.bind_some]
     have := s2 k' (by omega)
     rw [anZ] at this
     exact this
theorem Zo {n : za} (hn : isT n = false) (hw : nwt n ≤ 1099511627776) (pos : Nat) (hp : pos ≤ zD n.Kids) : ∃ s, kg n (pos : Int) = some (s, 0) ∧ Je n s pos := by
 have h4 := vN n
 obtain ⟨s, h1, h2⟩ := ag2 n hw (QZ n) n [] 0 pos (Nat.le_refl _) (.nil n) hn hp
 refine ⟨s, ?_, by simpa using h1⟩
 have hneg : decide ((pos : Int) < 0) = false := by simp
 have hgt : decide ((pos : Int) > (zD n.Kids : Int)) = false := by simp; omega
 unfold kg
 simp only [Wd, hn, Bool.false_eq_true, if_false, hneg]
 rw [Wn _ (by omega)]
 simp only [Option.bind_some, hgt, Bool.false_eq_true, if_false]
 rw [aqX] at h2
 rw [Zj (QZ n) h2]
 rfl
theorem al7 {n : za} (hn : isT n = false) (hw : nwt n ≤ 1099511627776) (pos : Int) (hp : pos < 0 ∨ zD n.Kids < pos) : kg n pos = some (⟨[], 0, 0⟩, 3) := by
 have h4 := vN n
 unfold kg
 simp only [Wd, hn, Bool.false_eq_true, if_false]
 by_cases h : pos < 0
 ·simp [h]
 ·have hgt : decide (pos > (zD n.Kids : Int)) = true := by simp; omega
  have hneg : decide (pos < 0) = false := by simpa using h
  simp only [hneg, Bool.false_eq_true, if_false]
  rw [Wn _ (by omega)]
  simp only [Option.bind_some, hgt, if_true]
theorem Je.le {n : za} {s pos} (h : Je n s pos) : pos ≤ zD n.Kids := by
 obtain ⟨q, m, a, idx, off, _, h1, _, h2, h3, h4, h5⟩ := h
 have hs := h1.sizes
 rcases Nat.lt_or_ge idx m.Kids.length with hl | hl
 ·obtain ⟨k, hk⟩ : ∃ k, m.Kids[idx]? = some k := ⟨_, List.getElem?_eq_getElem hl⟩
  have := ael hk
  have := (h4 k hk).1
  omega
 ·have := h5 (by omega)
  have := agf m.Kids idx
  omega
end Go.Proofs.YtclohbgnaopjfaaGreatDoor
namespace Go.Proofs.YtclohbgnaopjfaaGreatDoor
set_option linter.unusedSimpArgs false
set_option linter.unusedVariables false
open Go
def ZL : List Nat → za → za → za
 | [], _, x => x
 | i :: q, n, x => { n with Kids := match n.Kids[i]? with | some k => n.Kids.set i (ZL q k x) | none => n.Kids }
theorem jG {n : za} {i : Nat} {k : za} (hi : n.Kids[i]? = some k) (q : List Nat) (x : za) : ZL (i :: q) n x = { n with Kids := n.Kids.set i (ZL q k x) } := by
 rw [ZL, hi]
theorem JA : ∀ (q : List Nat) (n x : za), isT n = false → isT x = false → isT (ZL q n x) = false
 | [], n, x, _, h => h
 | i :: q, n, x, h, _ => h
theorem auR {x : za} {n : za} {q m a} (h : At n q m a) : nwt (ZL q n x) + nwt m = nwt n + nwt x := by
 induction h with
 | nil n => rw [ZL]; omega
 | cons n i k q m a hi hn hk h ih =>
  have hl := (List.getElem?_eq_some_iff.1 hi).1
  have h1 := afH hi
  rw [jG hi, qQ, qQ n]
  simp only
  rw [List.set_eq_take_append_cons_drop, if_pos hl, kV, zM]
  omega
theorem At.rep {x : za} (hx : isT x = false) {n : za} {q m a} (h : At n q m a) : At (ZL q n x) q x a := by
 induction h with
 | nil n => exact .nil _
 | cons n i k q m a hi hn hk h ih =>
  have hl := (List.getElem?_eq_some_iff.1 hi).1
  have := At.cons (ZL (i :: q) n x) i (ZL q k x) q x a (by rw [jG hi]; simp [hl]) hn (JA q k x hk hx) ih
  have e : (ZL (i :: q) n x).Kids.take i = n.Kids.take i := by
   rw [jG hi]
   simp only
   rw [List.take_set_of_le (Nat.le_refl _)]
  rw [e] at this
  exact this
theorem anR {α : Type} {l : List α} {i : Nat} (h : i < l.length) (x : α) : wr l (i : Int) x = some (l.set i x) := by
 unfold wr; rw [if_pos (by omega)]; simp
theorem avh {α : Type} (x : α) (l : List α) : sl (x :: l) 1 ((x :: l).length : Int) = some l := by
 have := JX (l := x :: l) (a := 1) (b := (x :: l).length) (by simp) (by simp)
 simpa using this
theorem ave {x : za} {n : za} {q m a} (h : At n q m a) : isT n = false → nwt n ≤ 1099511627776 → ∀ kr, q.length < kr → jI kr n (up q) x = some (ZL q n x, 0) := by
 induction h with
 | nil n =>
  intro hn hw kr hk
  obtain ⟨kr, rfl⟩ : ∃ j, kr = j + 1 := ⟨kr - 1, by omega⟩
  have := Wp (At.nil n) hn (by simp)
  rw [jI, this]
  rfl
 | cons n i k q m a hi hn hk h ih =>
  intro _ hw kr hkr
  simp only [List.length_cons] at hkr
  obtain ⟨kr, rfl⟩ : ∃ j, kr = j + 1 := ⟨kr - 1, by omega⟩
  have hat := At.cons n i k q m a hi hn hk h
  have g1 := hat.len
  have g2 := hat.sizes
  have g3 := kM n.Kids
  have g4 := vN n
  have g5 := afH hi
  have g6 := kv n.Kids
  have hl := (List.getElem?_eq_some_iff.1 hi).1
  have hnz : (((i :: q).length : Int) == 0) = false := by simp; omega
  have hin := Wp hat (hat.awU hn) (by omega)
  have e1 : rd (up (i :: q)) 0 = some (i : Int) := xC (l := up (i :: q)) (i := 0) rfl
  have e2 : sl (up (i :: q)) 1 ((up (i :: q)).length : Int) = some (up q) := avh _ _
  have e3 : app 104 [] n.Kids = some n.Kids := wW (by simp; omega)
  rw [jI, hin, e1, e2]
  simp only [Option.bind_some, bne_self_eq_false, Bool.false_eq_true, if_false, Jd, hnz, qZ, e3, xC hi]
  rw [ih hk (by omega) kr (by omega)]
  simp only [Option.bind_some]
  rw [anR hl, jG hi]
  rfl
theorem aoh {x : za} {n : za} {q m a} (h : At n q m a) (hn : isT n = false) (hw : nwt n ≤ 1099511627776) : QI n (up q) x = some (ZL q n x, 0) := by
 unfold QI
 exact Zj (q.length + 1) fun k hk => ave h hn hw k (by omega)
end Go.Proofs.YtclohbgnaopjfaaGreatDoor
namespace Go.Proofs.YtclohbgnaopjfaaGreatDoor
set_option linter.unusedSimpArgs false
set_option linter.unusedVariables false
open Go
structure vS (l : List za) : Prop where
 form : ∀ x ∈ l, qh x = true
 adj : vE l
theorem yF {n : za} (h : qh n = true) (ht : isT n = true) : n.Text ≠ [] ∧ Lib.validD n.Text = true ∧ jD n.Marks = true ∧ n.zq = [] ∧ n.Kids = [] := by
 rw [vW, if_pos ht] at h
 simp only [Bool.and_eq_true, decide_eq_true_eq] at h
 obtain ⟨⟨⟨h1, h2⟩, h3⟩, h4⟩ := h
 exact ⟨h1, h2, h3, List.eq_nil_of_length_eq_zero (by omega), List.eq_nil_of_length_eq_zero (by omega)⟩
theorem afL {t : Str} {m : List Str} (h1 : t ≠ []) (h2 : Lib.validD t = true) (h3 : jD m = true) : qh (tN t m) = true := by
 have ht : isT (tN t m) = true := rfl
 rw [vW, if_pos ht]
 simp [h1, h2, h3]
theorem afQ {n : za} (h : qh n = true) : Gd n := fun ht => by
 obtain ⟨_, h2, _, h4, h5⟩ := yF h ht
 exact ⟨h2, h4, h5⟩
theorem amg {s : Str} (h : s ≠ []) : 1 ≤ aeh s := by
 rw [← yB, abD s h]
 simp
theorem size_pos {n : za} (h : qh n = true) : 1 ≤ wE n := by
 rw [vV]
 cases ht : isT n with
 | true => simpa using amg (yF h ht).1
 | false => simp; omega
theorem vS.gd {l : List za} (h : vS l) : ∀ x ∈ l, Gd x := fun x hx => afQ (h.form x hx)
theorem vS.jnd {l : List za} (h : vS l) : Jnd l := ⟨h.adj, fun x hx ht => (yF (h.form x hx) ht).1⟩
theorem ahl {a b : List za} (ha : vS a) (hb : vS b) (h : items a = items b) : a = b := atv ha.jnd hb.jnd ha.gd hb.gd h
theorem vS.nil : vS [] := ⟨by simp, trivial⟩
theorem vS.left {a b : List za} (h : vS (a ++ b)) : vS a := ⟨fun x hx => h.form x (by simp [hx]), adK a b h.adj⟩
theorem vS.right {a b : List za} (h : vS (a ++ b)) : vS b := ⟨fun x hx => h.form x (by simp [hx]), aiF a b h.adj⟩
theorem aas (o : List za) (n : za) (h : vS o) (hn : qh n = true) : vS (joinStep o n) := by
 have hc : ¬ (isT n && n.Text == []) = true := by
  simp only [Bool.and_eq_true, beq_iff_eq]
  rintro ⟨h1, h2⟩
  exact (yF hn h1).1 h2
 rcases kz o with rfl | ⟨o, x, rfl⟩
 ·rw [vw, if_neg hc]
  exact ⟨fun y hy => by simp at hy; rw [hy]; exact hn, trivial⟩
 ·rw [wN, if_neg hc]
  have hx := h.form x (by simp)
  split
  ·rename_i hd
   simp only [Bool.and_eq_true, decide_eq_true_eq] at hd
   obtain ⟨⟨h1, h2⟩, h3⟩ := hd
   obtain ⟨a1, a2, a3, a4, a5⟩ := yF hx h2
   obtain ⟨b1, b2, b3, b4, b5⟩ := yF hn h1
   have e : ({ n with Text := x.Text ++ n.Text } : za) = tN (x.Text ++ n.Text) n.Marks := by
    have := JS h1
    cases n
    simp_all
   have ef : qh ({ n with Text := x.Text ++ n.Text } : za) = true := by
    rw [e]
    refine afL (by simp [a1]) ?_ b3
    rw [(adP n.Text a2).2]
    exact b2
   refine ⟨fun y hy => ?_, ?_⟩
   ·rcases List.mem_append.1 hy with hy | hy
    ·exact h.form y (by simp [hy])
    ·simp only [List.mem_singleton] at hy; rw [hy]; exact ef
   ·refine agD o x _ h.adj fun z => ?_
    unfold wG
    have e1 : isT ({ n with Text := x.Text ++ n.Text } : za) = true := h1
    rw [e1, h2]
    simp only [h3]
  ·rename_i hd
   refine ⟨fun y hy => ?_, ?_⟩
   ·have hy' : y ∈ o ++ [x] ∨ y = n := by simpa [or_assoc] using hy
    rcases hy' with hy | rfl
    ·exact h.form y hy
    ·exact hn
   ·have ha : wG x n = false := by
     unfold wG
     rw [Bool.and_comm (isT x)]
     simpa using hd
    have := aoo o x n h.adj ha
    simpa using this
theorem ai6 : ∀ (l o : List za), vS o → (∀ x ∈ l, qh x = true) → vS (l.foldl joinStep o)
 | [], _, h, _ => h
 | n :: l, o, h, hl => ai6 l _ (aas o n h (hl n (by simp))) fun x hx => hl x (by simp [hx])
theorem ad9 {l : List za} (h : ∀ x ∈ l, qh x = true) : vS (xG l) ∧ items (xG l) = items l :=
 ⟨ai6 l [] .nil h, (aoc fun x hx => afQ (h x hx)).1⟩
theorem vS.join {l : List za} (h : vS l) : xG l = l := h.jnd.join
theorem aqY : ∀ (l : List za) (last : Option za), xx last l = true → vS l ∧ ∀ x y, last = some x → l.head? = some y → wG x y = false
 | [], last, _ => ⟨.nil, by simp⟩
 | y :: l, last, h => by
  rw [Wx, Bool.and_eq_true, Bool.and_eq_true] at h
  obtain ⟨⟨h1, h2⟩, h3⟩ := h
  obtain ⟨h4, h5⟩ := aqY l (some y) h3
  refine ⟨⟨fun x hx => ?_, ?_⟩, ?_⟩
  ·rcases List.mem_cons.1 hx with rfl | hx
   ·exact h1
   ·exact h4.form x hx
  ·cases l with
   | nil => trivial
   | cons z l => exact ⟨h5 y z rfl rfl, h4.adj⟩
  ·rintro x y' rfl hy
   cases hy
   simpa using h2
theorem anQ {l : List za} (h : vS l) : xx none l = true := aro l none h.form h.adj fun _ _ hx => by cases hx
theorem jJ {n : za} (h : qh n = true) (ht : isT n = false) : vS n.Kids := by
 rw [vW, if_neg (by simp [ht])] at h
 simp only [Bool.and_eq_true] at h
 exact (aqY _ _ h.2).1
theorem aag {n : za} (h : qh n = true) (ht : isT n = false) {l : List za} (hl : vS l) : qh ({ n with Kids := l } : za) = true := by
 have ht' : isT ({ n with Kids := l } : za) = false := ht
 rw [vW, if_neg (by simp [ht])] at h
 rw [vW, if_neg (by simp [ht'])]
 simp only [Bool.and_eq_true] at h ⊢
 exact ⟨h.1, anQ hl⟩
theorem alW : ∀ (l : List za) (i : Int) (at' : Nat), zM l ≤ 1099511627776 → at' ≤ 1099511627776 → ∃ (k r : Nat), vJ l i (at' : Int) = some ((r : Int), i + (k : Int)) ∧ k ≤ l.length ∧ zD (l.take k) + r = at' ∧ ∀ y, l[k]? = some y → r < wE y
 | [], i, at', _, _ => ⟨0, at', by simp [vJ], by simp, by simp [zD], by simp⟩
 | y :: l, i, at', hw, ha => by
  simp only [zM] at hw
  rw [vJ, size_eq y (by omega)]
  simp only [Option.bind_some]
  by_cases hc : wE y ≤ at'
  ·have g : decide ((at' : Int) ≥ (wE y : Int)) = true := by simp; omega
   have e : w64 ((at' : Int) - (wE y : Int)) = ((at' - wE y : Nat) : Int) := by rw [qx (by omega)]; omega
   simp only [g, if_true, e]
   obtain ⟨k, r, h1, h2, h3, h4⟩ := alW l (i + 1) (at' - wE y) (by omega) (by omega)
   refine ⟨k + 1, r, ?_, by simpa using h2, ?_, ?_⟩
   ·rw [h1]; congr 2; omega
   ·simp only [List.take_succ_cons, zD]; omega
   ·intro z hz; exact h4 z (by simpa using hz)
  ·have g : decide ((at' : Int) ≥ (wE y : Int)) = false := by simp; omega
   simp only [g, Bool.false_eq_true, if_false]
   refine ⟨0, at', by simp, by simp, by simp [zD], ?_⟩
   intro z hz
   simp at hz
   rw [← hz]
   omega
theorem aoN : ∀ (P : List It) (i : It) (Q X Y : List It), P ++ i :: Q = X ++ Y → szI P < szI X → szI P + aic i ≤ szI X
 | [], i, Q, [], Y, _, hs => by simp [szI] at hs
 | [], i, Q, j :: X, Y, h, _ => by
  simp only [List.nil_append, List.cons_append, List.cons.injEq] at h
  simp only [szI, h.1]; omega
 | p :: P, i, Q, [], Y, _, hs => by simp [szI] at hs
 | p :: P, i, Q, j :: X, Y, h, hs => by
  simp only [List.cons_append, List.cons.injEq] at h
  obtain ⟨rfl, h⟩ := h
  simp only [szI] at hs ⊢
  have := aoN P i Q X Y h (by omega)
  omega
theorem alh (l : List za) (h : zM l ≤ 1099511627776) : qZ l = some l := by
 have := kv l
 unfold qZ
 rw [wW (by simp; omega)]
 simp
theorem atb (l : List za) (k : Nat) : zM (l.take k) + zM (l.drop k) = zM l := by
 have := kV (l.take k) (l.drop k)
 rw [List.take_append_drop] at this
 exact this.symm
theorem size_take (l : List za) (k : Nat) : zD (l.take k) + zD (l.drop k) = zD l := by
 have := Xt (l.take k) (l.drop k)
 rw [List.take_append_drop] at this
 exact this.symm
theorem ar6 {l : List za} (h : vS l) (hw : zM l ≤ 549755813888) (at' : Nat) (ha : at' ≤ zD l) :
  (∃ a b, xm l (at' : Int) = some (a, b, 0) ∧ vS a ∧ vS b ∧ items l = items a ++ items b ∧ szI (items a) = at' ∧ zM a ≤ zM l ∧ zM b ≤ zM l ∧ kE a ≤ kE l ∧ kE b ≤ kE l) ∨
  (xm l (at' : Int) = some ([], [], 10) ∧ ∀ X Y, items l = X ++ Y → szI X ≠ at') := by
 have hsz := kM l
 have hl := kv l
 obtain ⟨k, r, h1, h2, h3, h4⟩ := alW l 0 at' (by omega) (by omega)
 have g1 : decide ((at' : Int) < 0) = false := by simp
 have g2 : decide ((at' : Int) > (zD l : Int)) = false := by simp; omega
 have s1 : sl l 0 (k : Int) = some (l.take k) := by
  have := JX (l := l) (a := 0) (b := k) (by omega) h2
  simpa using this
 have s2 : sl l (k : Int) (l.length : Int) = some (l.drop k) := by
  have := JX (l := l) (a := k) (b := l.length) h2 (Nat.le_refl _)
  simpa using this
 have wtd := atb l k
 have std := size_take l k
 have rowt : vS (l.take k ++ l.drop k) := by rw [List.take_append_drop]; exact h
 have itd : items l = items (l.take k) ++ items (l.drop k) := by rw [← ZI, List.take_append_drop]
 have dtd : kE l = max (kE (l.take k)) (kE (l.drop k)) := by rw [← Y7, List.take_append_drop]
 unfold xm
 rw [g1]
 simp only [Bool.false_eq_true, if_false]
 rw [Wn l (by omega)]
 simp only [Option.bind_some, g2, Bool.false_eq_true, if_false]
 rw [qf (by omega), h1]
 simp only [Option.bind_some, Int.zero_add]
 rw [s1, s2]
 simp only [Option.bind_some]
 rw [alh _ (by omega), alh _ (by omega)]
 simp only [Option.bind_some]
 by_cases hr : r = 0
 ·subst hr
  refine .inl ⟨l.take k, l.drop k, by simp, rowt.left, rowt.right, itd, ?_, by omega, by omega, by omega, by omega⟩
  rw [yD]; omega
 ·have g3 : ((r : Int) == 0) = false := by simp; omega
  simp only [g3, Bool.false_eq_true, if_false]
  rcases Nat.lt_or_ge k l.length with hk | hk
  ·have hy : l[k]? = some l[k] := List.getElem?_eq_getElem hk
   generalize l[k] = y at hy
   have hym : y ∈ l := List.mem_of_getElem? hy
   have hyf := h.form y hym
   have hry := h4 y hy
   have hdrop : l.drop k = y :: l.drop (k + 1) := by
    have := List.drop_eq_getElem_cons hk
    rw [this]
    rw [List.getElem?_eq_getElem hk] at hy
    cases hy
    rfl
   rw [xC hy]
   simp only [Option.bind_some]
   cases ht : isT y with
   | false =>
    have g4 : (!(y.Kind == ([116, 101, 120, 116] : Str))) = true := by
     have : (y.Kind == ([116, 101, 120, 116] : Str)) = isT y := rfl
     rw [this, ht]; rfl
    refine .inr ⟨by simp only [g4, if_true], fun X Y hXY hX => ?_⟩
    have e : items l = items (l.take k) ++ It.nod y :: items (l.drop (k + 1)) := by
     rw [itd, hdrop, items, itN, ht]
     rfl
    have := aoN (items (l.take k)) (It.nod y) (items (l.drop (k + 1))) X Y (by rw [← e, hXY]) (by rw [yD]; omega)
    rw [yD] at this
    simp only [aic] at this
    omega
   | true =>
    have g4 : (!(y.Kind == ([116, 101, 120, 116] : Str))) = false := by
     have : (y.Kind == ([116, 101, 120, 116] : Str)) = isT y := rfl
     rw [this, ht]; rfl
    simp only [g4, Bool.false_eq_true, if_false]
    obtain ⟨t1, t2, t3, t4, t5⟩ := yF hyf ht
    have ek := JS ht
    have hrl : r < (runes y.Text).length := by
     rw [yB]
     rw [vV, if_pos ht] at hry
     exact hry
    have q1 : sl (runes y.Text) 0 (r : Int) = some ((runes y.Text).take r) := by
     have := JX (l := runes y.Text) (a := 0) (b := r) (by omega) (by omega)
     simpa using this
    have q2 : sl (runes y.Text) (r : Int) ((runes y.Text).length : Int) = some ((runes y.Text).drop r) := by
     have := JX (l := runes y.Text) (a := r) (b := (runes y.Text).length) (by omega) (Nat.le_refl _)
     simpa using this
    have q3 : rd (l.drop k) 0 = some y := by
     rw [hdrop]; exact xC (i := 0) rfl
    have q4 : wr (l.drop k) 0 ({ y with Text := zK ((runes y.Text).drop r) } : za) = some (({ y with Text := zK ((runes y.Text).drop r) } : za) :: l.drop (k + 1)) := by
     rw [hdrop]
     exact anR (l := y :: l.drop (k + 1)) (i := 0) (by simp) _
    rw [q1, q2, q3]
    simp only [Option.bind_some]
    rw [q4]
    simp only [Option.bind_some]
    have hvr := agP t2
    obtain ⟨a1, a2⟩ := J3 (l := (runes y.Text).take r) fun c hc => hvr c (List.mem_of_mem_take hc)
    obtain ⟨b1, b2⟩ := J3 (l := (runes y.Text).drop r) fun c hc => hvr c (List.mem_of_mem_drop hc)
    have hcat : zK ((runes y.Text).take r) ++ zK ((runes y.Text).drop r) = y.Text := by
     rw [← JZ, List.take_append_drop, WE t2]
    have hne1 : zK ((runes y.Text).take r) ≠ [] := by
     intro hh
     rw [hh, QH] at a1
     have := congrArg List.length a1
     simp at this
     omega
    have hne2 : zK ((runes y.Text).drop r) ≠ [] := by
     intro hh
     rw [hh, QH] at b1
     have := congrArg List.length b1
     simp at this
     omega
    have e1 : ({ y with Text := zK ((runes y.Text).take r) } : za) = tN (zK ((runes y.Text).take r)) y.Marks := by cases y; simp_all
    have e2 : ({ y with Text := zK ((runes y.Text).drop r) } : za) = tN (zK ((runes y.Text).drop r)) y.Marks := by cases y; simp_all
    have ey : y = tN y.Text y.Marks := arc (afQ hyf) ht
    rw [e1, e2]
    rw [wW (by simp; omega)]
    simp only [Option.bind_some]
    have hlen := congrArg List.length hcat
    rw [List.length_append] at hlen
    have wy : nwt y = 2 + 4 + y.Text.length + qX y.Marks := by
     rw [qQ, ek, t4, t5]; simp [wo, zM]
    have w1 : nwt (tN (zK ((runes y.Text).take r)) y.Marks) = 2 + 4 + (zK ((runes y.Text).take r)).length + qX y.Marks := by
     rw [qQ]; simp [wo, zM]
    have w2 : nwt (tN (zK ((runes y.Text).drop r)) y.Marks) = 2 + 4 + (zK ((runes y.Text).drop r)).length + qX y.Marks := by
     rw [qQ]; simp [wo, zM]
    have d1 : ∀ t m, QZ (tN t m) = 1 := fun t m => by rw [yG]; simp [kE]
    have dy : QZ y = 1 := by rw [ey]; exact d1 _ _
    have f1 := afL hne1 a2 t3
    have f2 := afL hne2 b2 t3
    have alk : ∀ t z, wG z (tN t y.Marks) = wG z y := fun t z => by
     unfold wG
     have : isT (tN t y.Marks) = true := rfl
     rw [this, ht]
    have alk' : ∀ t z, wG (tN t y.Marks) z = wG y z := fun t z => by
     unfold wG
     have : isT (tN t y.Marks) = true := rfl
     rw [this, ht]
    rw [hdrop] at wtd itd dtd rowt
    simp only [zM, kE, items] at wtd itd dtd
    refine .inl ⟨_, _, rfl, ⟨?_, ?_⟩, ⟨?_, ?_⟩, ?_, ?_, ?_, ?_, ?_, ?_⟩
    ·intro x hx
     rcases List.mem_append.1 hx with hx | hx
     ·exact rowt.left.form x hx
     ·simp only [List.mem_singleton] at hx; rw [hx]; exact f1
    ·have : vE (l.take k ++ [y]) := adK _ (l.drop (k + 1)) (by simpa using rowt.adj)
     exact agD _ _ _ this fun z => alk _ z
    ·intro x hx
     rcases List.mem_cons.1 hx with rfl | hx
     ·exact f2
     ·exact rowt.right.form x (by simp [hx])
    ·exact agY y _ _ rowt.right.adj fun z => alk' _ z
    ·rw [itd, ZI, items, items, items]
     have i1 : itN y = (runes y.Text).map fun c => It.sgn c y.Marks := by rw [itN, if_pos ht]
     have i2 : itN (tN (zK ((runes y.Text).take r)) y.Marks) = ((runes y.Text).take r).map fun c => It.sgn c y.Marks := by
      have : isT (tN (zK ((runes y.Text).take r)) y.Marks) = true := rfl
      rw [itN, if_pos this]
      simp only [a1]
     have i3 : itN (tN (zK ((runes y.Text).drop r)) y.Marks) = ((runes y.Text).drop r).map fun c => It.sgn c y.Marks := by
      have : isT (tN (zK ((runes y.Text).drop r)) y.Marks) = true := rfl
      rw [itN, if_pos this]
      simp only [b1]
     rw [i1, i2, i3]
     simp only [List.append_nil, List.append_assoc]
     rw [← List.append_assoc (List.map _ (List.take r _)), ← List.map_append, List.take_append_drop]
    ·rw [yD, Xt]
     simp only [zD]
     have : isT (tN (zK ((runes y.Text).take r)) y.Marks) = true := rfl
     rw [vV, if_pos this, ← yB]
     simp only [a1, List.length_take]
     omega
    ·rw [kV]; simp only [zM]; omega
    ·simp only [zM]; omega
    ·rw [Y7]; simp only [kE, d1]; omega
    ·simp only [kE, d1]; omega
  ·exfalso
   have : l.take k = l := List.take_of_length_le hk
   rw [this] at h3
   omega
theorem amF {l : List za} (h : vS l) (hw : zM l ≤ 549755813888) {X Y : List It} (e : items l = X ++ Y) :
  ∃ a b, xm l (szI X : Int) = some (a, b, 0) ∧ vS a ∧ vS b ∧ items a = X ∧ items b = Y ∧ zM a ≤ zM l ∧ zM b ≤ zM l ∧ kE a ≤ kE l ∧ kE b ≤ kE l := by
 have hs : szI X ≤ zD l := by
  rw [← yD, e, Q9]; omega
 rcases ar6 h hw (szI X) hs with ⟨a, b, h1, h2, h3, h4, h5, h6⟩ | ⟨_, h2⟩
 ·have hn : ∀ i ∈ X ++ Y, amV i := by rw [← e]; exact aab l
  obtain ⟨e1, e2⟩ := ajz X (items a) Y (items b) hn (by rw [← e, h4]) h5.symm
  exact ⟨a, b, h1, h2, h3, e1.symm, e2.symm, h6⟩
 ·exact (h2 X Y e rfl).elim
end Go.Proofs.YtclohbgnaopjfaaGreatDoor
namespace Go.Proofs.YtclohbgnaopjfaaGreatDoor
set_option linter.unusedSimpArgs false
set_option linter.unusedVariables false
open Go
inductive Tk where
 | sgn (c : Int) (m : List Str)
 | opn (k : Str) (a : List zf)
 | cls
mutual
def tkN : za → List Tk
 | ⟨k, t, m, a, ks⟩ => if (k == ve) = true then (runes t).map (fun c => Tk.sgn c m) else Tk.opn k a :: (tkL ks ++ [Tk.cls])
def tkL : List za → List Tk
 | [] => []
 | n :: l => tkN n ++ tkL l
end
theorem wZ (n : za) : tkN n = if isT n = true then (runes n.Text).map (fun c => Tk.sgn c n.Marks) else Tk.opn n.Kind n.zq :: (tkL n.Kids ++ [Tk.cls]) := by cases n; simp only [tkN, isT]; rfl
def XL : It → List Tk
 | .sgn c m => [.sgn c m]
 | .nod n => tkN n
def tkI (l : List It) : List Tk := l.flatMap XL
theorem ZP (i : It) (l : List It) : tkI (i :: l) = XL i ++ tkI l := rfl
theorem KF (a b : List It) : tkI (a ++ b) = tkI a ++ tkI b := by simp [tkI]
theorem acj (a b : List za) : tkL (a ++ b) = tkL a ++ tkL b := by
 induction a with
 | nil => simp [tkL]
 | cons n a ih => simp only [List.cons_append, tkL, ih, List.append_assoc]
theorem asH (m : List Str) (cs : List Int) : tkI (cs.map fun c => It.sgn c m) = cs.map fun c => Tk.sgn c m := by
 induction cs with
 | nil => rfl
 | cons c cs ih => rw [List.map_cons, ZP, ih]; rfl
theorem aoz (n : za) : tkI (itN n) = tkN n := by
 rw [wZ]
 unfold itN
 cases h : isT n with
 | true => simp only [if_true]; exact asH _ _
 | false =>
  simp only [Bool.false_eq_true, if_false]
  have : tkI [It.nod n] = tkN n := by simp [tkI, XL]
  rw [this, wZ, h]
  simp
theorem jh (l : List za) : tkI (items l) = tkL l := by
 induction l with
 | nil => rfl
 | cons n l ih => rw [items, KF, aoz, ih, tkL]
mutual
theorem afR : ∀ n : za, (tkN n).length = wE n
 | ⟨k, t, m, a, ks⟩ => by
  rw [wZ, vV]
  cases h : isT (⟨k, t, m, a, ks⟩ : za) with
  | true => simp [yB]
  | false =>
   have := Zi ks
   simp; omega
theorem Zi : ∀ l : List za, (tkL l).length = zD l
 | [] => rfl
 | n :: l => by
  have h1 := afR n
  have h2 := Zi l
  simp only [tkL, zD, List.length_append]; omega
end
theorem asZ (i : It) : (XL i).length = aic i := by
 cases i with
 | sgn c m => rfl
 | nod n => exact afR n
theorem Xf (l : List It) : (tkI l).length = szI l := by
 induction l with
 | nil => rfl
 | cons i l ih => rw [ZP, List.length_append, ih, asZ, szI]
def FI (l : List It) : Prop := ∀ n, It.nod n ∈ l → isT n = false ∧ qh n = true
theorem WC {l : List za} (h : ∀ x ∈ l, qh x = true) : FI (items l) := by
 induction l with
 | nil => intro n hn; cases hn
 | cons y l ih =>
  intro n hn
  rcases List.mem_append.1 hn with hn | hn
  ·unfold itN at hn
   cases ht : isT y with
   | true => rw [ht] at hn; simp at hn
   | false =>
    rw [ht] at hn
    simp at hn
    subst hn
    exact ⟨ht, h n (by simp)⟩
  ·exact ih (fun x hx => h x (by simp [hx])) n hn
def aqG : List Tk → Prop
 | [] => True
 | .cls :: _ => True
 | _ => False
theorem VZ {a b : za} (ha : qh a = true) (hb : qh b = true) (ta : isT a = false) (tb : isT b = false) (hk : a.Kind = b.Kind) (hat : a.zq = b.zq) (hks : a.Kids = b.Kids) : a = b := by
 rw [vW, if_neg (by simp [ta])] at ha
 rw [vW, if_neg (by simp [tb])] at hb
 simp only [Bool.and_eq_true, decide_eq_true_eq] at ha hb
 cases a; cases b
 simp_all
theorem agl : ∀ (f : Nat) (X Y : List It) (R S : List Tk), szI X ≤ f → FI X → FI Y → aqG R → aqG S → tkI X ++ R = tkI Y ++ S → X = Y ∧ R = S
 | f, [], [], R, S, _, _, _, _, _, h => ⟨rfl, h⟩
 | f, [], j :: Y, R, S, _, _, fy, hR, _, h => by
  exfalso
  rw [ZP] at h
  cases j with
  | sgn c m =>
   simp only [XL, tkI, List.flatMap_nil, List.nil_append, List.cons_append] at h
   rw [h] at hR
   exact hR
  | nod n =>
   have := (fy n (by simp)).1
   simp only [XL, tkI, List.flatMap_nil, List.nil_append] at h
   rw [wZ, this] at h
   simp only [Bool.false_eq_true, if_false, List.cons_append] at h
   rw [h] at hR
   exact hR
 | f, i :: X, [], R, S, _, fx, _, _, hS, h => by
  exfalso
  rw [ZP] at h
  cases i with
  | sgn c m =>
   simp only [XL, tkI, List.flatMap_nil, List.nil_append, List.cons_append] at h
   rw [← h] at hS
   exact hS
  | nod n =>
   have := (fx n (by simp)).1
   simp only [XL, tkI, List.flatMap_nil, List.nil_append] at h
   rw [wZ, this] at h
   simp only [Bool.false_eq_true, if_false, List.cons_append] at h
   rw [← h] at hS
   exact hS
 | 0, i :: X, j :: Y, R, S, hf, fx, _, _, _, h => by
  exfalso
  have := YY i (by
   intro n hn
   subst hn
   exact (fx n (by simp)).1)
  simp only [szI] at hf
  omega
 | f + 1, i :: X, j :: Y, R, S, hf, fx, fy, hR, hS, h => by
  have hp := YY i (by
   intro n hn
   subst hn
   exact (fx n (by simp)).1)
  simp only [szI] at hf
  have fx' : FI X := fun n hn => fx n (by simp [hn])
  have fy' : FI Y := fun n hn => fy n (by simp [hn])
  rw [ZP, ZP] at h
  cases i with
  | sgn c m =>
   cases j with
   | sgn c' m' =>
    simp only [XL, List.cons_append, List.nil_append, List.cons.injEq, Tk.sgn.injEq] at h
    obtain ⟨⟨rfl, rfl⟩, h⟩ := h
    obtain ⟨rfl, h2⟩ := agl f X Y R S (by omega) fx' fy' hR hS h
    exact ⟨rfl, h2⟩
   | nod n =>
    exfalso
    have := (fy n (by simp)).1
    simp only [XL] at h
    rw [wZ, this] at h
    simp at h
  | nod n =>
   obtain ⟨tn, fn⟩ := fx n (by simp)
   cases j with
   | sgn c m =>
    exfalso
    simp only [XL] at h
    rw [wZ, tn] at h
    simp at h
   | nod n' =>
    obtain ⟨tn', fn'⟩ := fy n' (by simp)
    simp only [XL] at h
    rw [wZ, wZ, tn, tn'] at h
    simp only [Bool.false_eq_true, if_false, List.cons_append, List.append_assoc, List.nil_append, List.cons.injEq, Tk.opn.injEq] at h
    obtain ⟨⟨hk, hat⟩, h⟩ := h
    have r1 := jJ fn tn
    have r2 := jJ fn' tn'
    have hsz : szI (items n.Kids) ≤ f := by
     rw [yD]
     simp only [aic] at hf
     rw [vV, tn] at hf
     simp at hf
     omega
    rw [← jh, ← jh] at h
    obtain ⟨e1, e2⟩ := agl f (items n.Kids) (items n'.Kids) (Tk.cls :: (tkI X ++ R)) (Tk.cls :: (tkI Y ++ S)) hsz (WC r1.form) (WC r2.form) trivial trivial h
    have e3 := ahl r1 r2 e1
    have e4 := VZ fn fn' tn tn' hk hat e3
    subst e4
    simp only [List.cons.injEq, true_and] at e2
    obtain ⟨rfl, h2⟩ := agl f X Y R S (by omega) fx' fy' hR hS e2
    exact ⟨rfl, h2⟩
theorem aoK {a b : List za} (ha : vS a) (hb : vS b) (h : tkL a = tkL b) : a = b := by
 rw [← jh, ← jh] at h
 exact ahl ha hb (agl (szI (items a)) (items a) (items b) [] [] (Nat.le_refl _) (WC ha.form) (WC hb.form) trivial trivial (by simpa using h)).1
end Go.Proofs.YtclohbgnaopjfaaGreatDoor
namespace Go.Proofs.YtclohbgnaopjfaaGreatDoor
set_option linter.unusedSimpArgs false
set_option linter.unusedVariables false
open Go
theorem right_eq (n : za) (h : nwt n ≤ 1099511627776) : QJ n = some (checkN n == 0) := by
 unfold QJ
 rw [Yj n h]
 rfl
end Go.Proofs.YtclohbgnaopjfaaGreatDoor
namespace Go.Proofs.YtclohbgnaopjfaaGreatDoor
set_option linter.unusedSimpArgs false
set_option linter.unusedVariables false
open Go
def agt (l : List za) (i r : Nat) : Prop := i ≤ l.length ∧ (∀ k, l[i]? = some k → r < wE k) ∧ (i = l.length → r = 0)
theorem YB : ∀ (l : List za) (i r j s : Nat), agt l i r → agt l j s → zD (l.take i) + r = zD (l.take j) + s → i = j ∧ r = s
 | [], i, r, j, s, h1, h2, h => by
  obtain ⟨a1, _, a3⟩ := h1
  obtain ⟨b1, _, b3⟩ := h2
  simp only [List.length_nil, Nat.le_zero] at a1 b1
  subst a1; subst b1
  simp only [List.length_nil, forall_const] at a3 b3
  omega
 | k :: l, 0, r, 0, s, h1, h2, h => by
  simp only [List.take_zero, zD] at h
  omega
 | k :: l, 0, r, j + 1, s, h1, h2, h => by
  have := h1.2.1 k rfl
  simp only [List.take_zero, List.take_succ_cons, zD] at h
  omega
 | k :: l, i + 1, r, 0, s, h1, h2, h => by
  have := h2.2.1 k rfl
  simp only [List.take_zero, List.take_succ_cons, zD] at h
  omega
 | k :: l, i + 1, r, j + 1, s, h1, h2, h => by
  have g : ∀ i r, agt (k :: l) (i + 1) r → agt l i r := fun i r h => ⟨by simpa using h.1, fun y hy => h.2.1 y (by simpa using hy), fun e => h.2.2 (by simp [e])⟩
  simp only [List.take_succ_cons, zD] at h
  obtain ⟨e1, e2⟩ := YB l i r j s (g _ _ h1) (g _ _ h2) (by omega)
  exact ⟨by omega, e2⟩
theorem At.fn {n : za} {q m a} (h : At n q m a) : ∀ {m' a'}, At n q m' a' → m = m' ∧ a = a' := by
 induction h with
 | nil n => intro m' a' h'; cases h'; exact ⟨rfl, rfl⟩
 | cons n i k q m a hi hn hk h ih =>
  intro m' a' h'
  cases h' with
  | cons _ _ k' _ _ a2 hi' _ _ h2 =>
   rw [hi] at hi'
   cases hi'
   obtain ⟨rfl, rfl⟩ := ih h2
   exact ⟨rfl, rfl⟩
def abN (m : za) (idx off : Nat) : Prop := idx ≤ m.Kids.length ∧ (∀ k, m.Kids[idx]? = some k → off < wE k ∧ (0 < off → isT k = true)) ∧ (idx = m.Kids.length → off = 0)
theorem abN.idx {m : za} {i r} (h : abN m i r) : agt m.Kids i r := ⟨h.1, fun k hk => (h.2.1 k hk).1, h.2.2⟩
theorem abN.le {m : za} {i r} (h : abN m i r) : zD (m.Kids.take i) + r ≤ zD m.Kids := by
 rcases Nat.lt_or_ge i m.Kids.length with hi | hi
 ·have hk : m.Kids[i]? = some m.Kids[i] := List.getElem?_eq_getElem hi
  have h1 := (h.2.1 _ hk).1
  have h2 := ael hk
  omega
 ·have := h.2.2 (by have := h.1; omega)
  have := agf m.Kids i
  omega
theorem aqC {n : za} {q m a} (h : At n q m a) : ∀ {q' m' a' i r i' r'}, At n q' m' a' → isT m = false → isT m' = false → abN m i r → abN m' i' r' → a + zD (m.Kids.take i) + r = a' + zD (m'.Kids.take i') + r' → q = q' ∧ i = i' ∧ r = r' := by
 induction h with
 | nil n =>
  intro q' m' a' i r i' r' h' hm hm' hs hs' e
  cases h' with
  | nil =>
   obtain ⟨e1, e2⟩ := YB n.Kids i r i' r' hs.idx hs'.idx (by omega)
   exact ⟨rfl, e1, e2⟩
  | cons _ j k' q2 _ a2 hi' hn' hk' h2 =>
   exfalso
   have hle := hs'.le
   have hsz := h2.sizes
   have hk2 := yl hk'
   have hlt : j < n.Kids.length := (List.getElem?_eq_some_iff.1 hi').1
   obtain ⟨e1, e2⟩ := YB n.Kids i r j (1 + (a2 + zD (m'.Kids.take i') + r')) hs.idx ⟨by omega, fun k hk => by rw [hi'] at hk; cases hk; omega, fun e => by omega⟩ (by omega)
   subst e1
   have := (hs.2.1 k' hi').2 (by omega)
   rw [hk'] at this
   cases this
 | cons n j k q m a hi hn hk h ih =>
  intro q' m' a' i r i' r' h' hm hm' hs hs' e
  have hle := hs.le
  have hsz := h.sizes
  have hk2 := yl hk
  have hlt : j < n.Kids.length := (List.getElem?_eq_some_iff.1 hi).1
  have I1 : agt n.Kids j (1 + (a + zD (m.Kids.take i) + r)) := ⟨by omega, fun k2 hk2' => by rw [hi] at hk2'; cases hk2'; omega, fun e => by omega⟩
  cases h' with
  | nil =>
   exfalso
   obtain ⟨e1, e2⟩ := YB n.Kids _ _ _ _ I1 hs'.idx (by omega)
   subst e1
   have := (hs'.2.1 k hi).2 (by omega)
   rw [hk] at this
   cases this
  | cons _ j' k' q2 _ a2 hi' hn' hk' h2 =>
   have hle' := hs'.le
   have hsz' := h2.sizes
   have hk2' := yl hk'
   have hlt' : j' < n.Kids.length := (List.getElem?_eq_some_iff.1 hi').1
   have I2 : agt n.Kids j' (1 + (a2 + zD (m'.Kids.take i') + r')) := ⟨by omega, fun k2 hk3 => by rw [hi'] at hk3; cases hk3; omega, fun e => by omega⟩
   obtain ⟨e1, e2⟩ := YB n.Kids _ _ _ _ I1 I2 (by omega)
   subst e1
   rw [hi] at hi'
   cases hi'
   obtain ⟨e3, e4, e5⟩ := ih h2 hm hm' hs hs' (by omega)
   exact ⟨by rw [e3], e4, e5⟩
theorem arL {l : List It} (h : ∀ i ∈ l, amV i) (hs : szI l = 0) : l = [] := by
 cases l with
 | nil => rfl
 | cons i l =>
  have := YY i (h i (by simp))
  simp only [szI] at hs
  omega
theorem asf {A B C D : List It} (hn : ∀ i ∈ A ++ B, amV i) (h : A ++ B = C ++ D) (hs : szI A ≤ szI C) : ∃ M, C = A ++ M ∧ B = M ++ D := by
 rcases List.append_eq_append_iff.1 h with ⟨M, h1, h2⟩ | ⟨M, h1, h2⟩
 ·exact ⟨M, h1, h2⟩
 ·have : M = [] := by
   refine arL (fun i hi => hn i (by rw [h1]; simp [hi])) ?_
   rw [h1, Q9] at hs
   omega
  subst this
  simp only [List.append_nil, List.nil_append] at h1 h2
  exact ⟨[], by simp [h1], by simpa using h2.symm⟩
theorem acz : ∀ (K : List za) (X R : List It), (∀ x ∈ K, qh x = true) → items K = X ++ R → ∃ idx off, zD (K.take idx) + off = szI X ∧ idx ≤ K.length ∧ (∀ k, K[idx]? = some k → off < wE k ∧ (0 < off → isT k = true)) ∧ (idx = K.length → off = 0)
 | [], X, R, _, h => by
  have : X = [] := by
   cases X with
   | nil => rfl
   | cons => cases h
  subst this
  exact ⟨0, 0, rfl, Nat.le_refl _, by simp, fun _ => rfl⟩
 | k :: K, X, R, hf, h => by
  have hn : ∀ i ∈ itN k ++ items K, amV i := aab (k :: K)
  rw [items] at h
  rcases Nat.lt_or_ge (szI X) (wE k) with hc | hc
  ·refine ⟨0, szI X, by simp [zD], by simp, ?_, by simp⟩
   intro k' hk'
   simp only [List.getElem?_cons_zero, Option.some.injEq] at hk'
   subst hk'
   refine ⟨hc, fun hp => ?_⟩
   cases ht : isT k with
   | true => rfl
   | false =>
    exfalso
    cases X with
    | nil => simp [szI] at hp
    | cons i X =>
     have : itN k = [It.nod k] := by unfold itN; rw [ht]; rfl
     rw [this] at h
     simp only [List.cons_append, List.nil_append, List.cons.injEq] at h
     rw [← h.1] at hc
     simp only [szI, aic] at hc
     omega
  ·obtain ⟨M, h1, h2⟩ := asf hn h (by rw [akh]; exact hc)
   obtain ⟨idx, off, e1, e2, e3, e4⟩ := acz K M R (fun x hx => hf x (by simp [hx])) h2
   refine ⟨idx + 1, off, ?_, by simpa using e2, fun k' hk' => e3 k' (by simpa using hk'), fun e => e4 (by simpa using e)⟩
   rw [h1, Q9, akh]
   simp only [List.take_succ_cons, zD]
   omega
theorem adk {m : za} {idx off : Nat} (h : abN m idx off) : ∃ X R, items m.Kids = X ++ R ∧ szI X = zD (m.Kids.take idx) + off := by
 have e : items m.Kids = items (m.Kids.take idx) ++ items (m.Kids.drop idx) := by rw [← ZI, List.take_append_drop]
 by_cases h0 : off = 0
 ·exact ⟨_, _, e, by rw [yD, h0]; rfl⟩
 ·have hlt : idx < m.Kids.length := by
   rcases Nat.lt_or_ge idx m.Kids.length with h1 | h1
   ·exact h1
   ·exact (h0 (h.2.2 (by have := h.1; omega))).elim
  have hk : m.Kids[idx]? = some m.Kids[idx] := List.getElem?_eq_getElem hlt
  obtain ⟨h1, h2⟩ := h.2.1 _ hk
  have ht := h2 (by omega)
  rw [List.drop_eq_getElem_cons hlt, items] at e
  generalize m.Kids[idx] = k at *
  have ei : itN k = (runes k.Text).map fun c => It.sgn c k.Marks := by unfold itN; rw [if_pos ht]
  have ec : itN k = ((runes k.Text).take off).map (fun c => It.sgn c k.Marks) ++ ((runes k.Text).drop off).map fun c => It.sgn c k.Marks := by
   rw [← List.map_append, List.take_append_drop, ei]
  rw [ec, List.append_assoc, ← List.append_assoc] at e
  refine ⟨_, _, e, ?_⟩
  rw [Q9, yD, aox, List.length_take]
  rw [vV, if_pos ht, ← yB] at h1
  omega
structure Flat (n : za) (f t : Nat) (q : List Nat) (m : za) (a : Nat) (X Y Z : List It) : Prop where
 at_ : At n q m a
 nt : isT m = false
 it : items m.Kids = X ++ (Y ++ Z)
 sx : a + szI X = f
 sy : f + szI Y = t
theorem At.form {n : za} {q m a} (h : At n q m a) : qh n = true → qh m = true := by
 induction h with
 | nil n => exact id
 | cons n i k q m a hi hn hk h ih => exact fun hf => ih (am1 hf hn k (List.mem_of_getElem? hi))
theorem ao3 {n : za} {q m a X R} (hf : qh n = true) (h : At n q m a) (hm : isT m = false) (e : items m.Kids = X ++ R) {s p} (hs : Je n s p) (hp : a + szI X = p) : s.Path = up q := by
 obtain ⟨q', m', a', idx', off', rfl, h', hm', b1, b2, b3, b4⟩ := hs
 obtain ⟨idx, off, c1, c2, c3, c4⟩ := acz m.Kids X R (jJ (h.form hf) hm).form e
 obtain ⟨rfl, _, _⟩ := aqC h h' hm hm' ⟨c2, c3, c4⟩ ⟨b1, b3, b4⟩ (by omega)
 rfl
theorem arF (b : List Int) : ∀ (suf pre : List Int) (i : Int), i = (pre.length : Int) → b.length = pre.length + suf.length → b.take pre.length = pre → wO b suf i = some (if pre ++ suf = b then .inr () else .inl false)
 | [], pre, i, hi, hl, ht => by
  have : pre = b := by
   rw [← ht, List.take_of_length_le]
   simp at hl; omega
  simp [wO, this]
 | y :: suf, pre, i, hi, hl, ht => by
  simp only [List.length_cons] at hl
  obtain ⟨x, hx⟩ : ∃ x, b[pre.length]? = some x := ⟨b[pre.length], List.getElem?_eq_getElem (by omega)⟩
  rw [wO, hi, xC hx]
  simp only [Option.bind_some]
  have htk : b.take (pre.length + 1) = pre ++ [x] := by
   rw [List.take_add_one, ht, hx]
   rfl
  by_cases hxy : y = x
  ·subst hxy
   simp only [bne_self_eq_false, Bool.false_eq_true, if_false]
   rw [arF b suf (pre ++ [y]) _ (by simp) (by simp; omega) (by simpa using htk)]
   simp
  ·have hn : ¬ pre ++ y :: suf = b := by
    intro h
    rw [← h] at hx
    simp at hx
    exact hxy hx
   have g : (y != x) = true := by simpa using hxy
   rw [if_pos g, if_neg hn]
theorem asr (a b : List Int) (h : a.length ≤ 9223372036854775807) : slices_Equal_int a b = some (decide (a = b)) := by
 unfold slices_Equal_int
 by_cases hl : a.length = b.length
 ·simp only [hl, bne_self_eq_false, Bool.false_eq_true, if_false]
  rw [qf (by omega), arF b a [] 0 rfl (by simp [hl]) (by simp)]
  by_cases e : a = b <;> simp [e]
 ·have h1 : ((a.length : Int) != (b.length : Int)) = true := by simp; omega
  have h2 : ¬ a = b := fun e => hl (by rw [e])
  rw [if_pos h1]
  simp [h2]
abbrev av3 : qH := { path := [], in_ := afo, from_ := (0 : Int), to_ := (0 : Int) }
theorem Je.len {n : za} {s p} (h : Je n s p) : s.Path.length ≤ p := by
 obtain ⟨q, m, a, idx, off, rfl, h1, _, _, h2, _⟩ := h
 rw [Jd]
 have := h1.len
 omega
structure RN (n : za) : Prop where
 ok : checkN n = 0
 nt : isT n = false
 wt : nwt n ≤ 549755813888
theorem abY {n : za} (h : checkN n = 0) : qh n = true ∧ xS n ≤ 40 ∧ wE n ≤ 4000 := by
 unfold checkN at h
 cases hf : qh n with
 | false => rw [hf] at h; simp at h
 | true =>
  rw [hf] at h
  simp only [Bool.true_eq_false, if_false] at h
  refine ⟨rfl, ?_, ?_⟩
  ·by_cases hd : 40 < xS n
   ·rw [if_pos hd] at h; cases h
   ·omega
  ·by_cases hd : 40 < xS n
   ·rw [if_pos hd] at h; cases h
   ·rw [if_neg hd] at h
    by_cases hs : 4000 < wE n
    ·rw [if_pos hs] at h; cases h
    ·omega
theorem RN.form {n : za} (h : RN n) : qh n = true := (abY h.ok).1
theorem anX {n : za} (hn : RN n) {f t q m a X Y Z} (h : Flat n f t q m a X Y Z) : yc n (f : Int) (t : Int) = some (⟨up q, m, (szI X : Int), ((szI X + szI Y : Nat) : Int)⟩, 0) := by
 obtain ⟨h1, h2, h3, h4, h5⟩ := h
 have hw := hn.wt
 have z1 := h1.sizes
 have z2 : szI X + (szI Y + szI Z) = zD m.Kids := by rw [← yD, h3, Q9, Q9]
 have z3 := kM n.Kids
 have z4 := vN n
 have z5 := h1.len
 obtain ⟨s1, e1, o1⟩ := Zo hn.nt (by omega) f (by omega)
 obtain ⟨s2, e2, o2⟩ := Zo hn.nt (by omega) t (by omega)
 have p1 := ao3 hn.form h1 h2 (R := Y ++ Z) h3 o1 h4
 have p2 := ao3 hn.form h1 h2 (X := X ++ Y) (R := Z) (by rw [h3, List.append_assoc]) o2 (by rw [Q9]; omega)
 have l1 := o1.len
 have g0 : (n.Kind == ([116, 101, 120, 116] : Str)) = false := hn.nt
 have g1 : decide ((t : Int) < (f : Int)) = false := by simp; omega
 unfold yc
 rw [g0]
 simp only [Bool.false_eq_true, if_false]
 rw [right_eq n (by omega), hn.ok]
 simp only [Option.bind_some, beq_self_eq_true, Bool.not_true, Bool.false_eq_true, if_false]
 rw [e1]
 simp only [Option.bind_some, bne_self_eq_false, Bool.false_eq_true, if_false]
 rw [e2]
 simp only [Option.bind_some, bne_self_eq_false, Bool.false_eq_true, if_false, g1]
 rw [asr _ _ (by omega), p1, p2]
 simp only [Option.bind_some, decide_true, Bool.not_true, Bool.false_eq_true, if_false]
 rw [start_eq h1 h2 (by omega), Wp h1 h2 (by omega)]
 simp only [Option.bind_some]
 unfold wK
 simp only [bne_self_eq_false, Bool.false_eq_true, if_false, Option.bind_some]
 rw [qx (by omega), qx (by omega)]
 congr 2
 have e3 : (f : Int) - (a : Int) = (szI X : Int) := by omega
 have e4 : (t : Int) - (a : Int) = ((szI X + szI Y : Nat) : Int) := by omega
 rw [e3, e4]
theorem alo {n : za} (hn : RN n) {f t : Nat} (hft : f ≤ t) {s1 s2} (o1 : Je n s1 f) (e1 : kg n (f : Int) = some (s1, 0)) (e2 : kg n (t : Int) = some (s2, 0)) (hne : s1.Path ≠ s2.Path) : yc n (f : Int) (t : Int) = some (av3, 10) := by
 have hw := hn.wt
 have l1 := o1.len
 have l2 := o1.le
 have z3 := kM n.Kids
 have z4 := vN n
 have g0 : (n.Kind == ([116, 101, 120, 116] : Str)) = false := hn.nt
 have g1 : decide ((t : Int) < (f : Int)) = false := by simp; omega
 unfold yc
 rw [g0]
 simp only [Bool.false_eq_true, if_false]
 rw [right_eq n (by omega), hn.ok]
 simp only [Option.bind_some, beq_self_eq_true, Bool.not_true, Bool.false_eq_true, if_false]
 rw [e1]
 simp only [Option.bind_some, bne_self_eq_false, Bool.false_eq_true, if_false]
 rw [e2]
 simp only [Option.bind_some, bne_self_eq_false, Bool.false_eq_true, if_false, g1]
 rw [asr _ _ (by omega)]
 simp only [Option.bind_some, hne, decide_false, Bool.not_false, if_true]
 unfold wK
 rfl
theorem apb {n : za} (hn : RN n) {f t : Nat} (hft : f ≤ t) {s1 s2} (o1 : Je n s1 f) (o2 : Je n s2 t) (he : s1.Path = s2.Path) : ∃ q m a X Y Z, Flat n f t q m a X Y Z ∧ s1.Path = up q := by
 obtain ⟨q, m, a, idx, off, rfl, h1, hm, b1, b2, b3, b4⟩ := o1
 obtain ⟨q', m', a', idx', off', rfl, h1', hm', c1, c2, c3, c4⟩ := o2
 have : q = q' := aq1 he
 subst this
 obtain ⟨rfl, rfl⟩ := h1.fn h1'
 obtain ⟨X, R, x1, x2⟩ := adk (m := m) ⟨b1, b3, b4⟩
 obtain ⟨X', R', y1, y2⟩ := adk (m := m) ⟨c1, c3, c4⟩
 obtain ⟨M, m1, m2⟩ := asf (by rw [← x1]; exact aab _) (x1.symm.trans y1) (by omega)
 refine ⟨q, m, a, X, M, R', ⟨h1, hm, ?_, by omega, ?_⟩, rfl⟩
 ·rw [x1, m2]
 ·rw [m1, Q9] at y2
  omega
theorem asY {n : za} (hn : RN n) {f : Nat} (hf : f ≤ zD n.Kids) : ∃ q m a X Z, Flat n f f q m a X [] Z := by
 obtain ⟨s, _, o⟩ := Zo hn.nt (by have := hn.wt; omega) f hf
 obtain ⟨q, m, a, X, Y, Z, h, _⟩ := apb hn (Nat.le_refl f) o o rfl
 have hz : szI Y = 0 := by have := h.sy; omega
 have : Y = [] := arL (fun i hi => aab m.Kids i (by rw [h.it]; simp [hi])) hz
 subst this
 exact ⟨q, m, a, X, Z, h⟩
end Go.Proofs.YtclohbgnaopjfaaGreatDoor
namespace Go.Proofs.YtclohbgnaopjfaaGreatDoor
set_option linter.unusedSimpArgs false
set_option linter.unusedVariables false
open Go
theorem amE : ∀ (a : List za) (k k' : za) (b : List za), vE (a ++ k :: b) → (∀ z, wG z k' = wG z k) → (∀ z, wG k' z = wG k z) → vE (a ++ k' :: b)
 | [], k, k', b, h, _, h2 => agY k k' b h h2
 | [x], k, k', b, h, h1, h2 => ⟨by rw [h1]; exact h.1, agY k k' b h.2 h2⟩
 | x :: y :: a, k, k', b, h, h1, h2 => ⟨h.1, amE (y :: a) k k' b h.2 h1 h2⟩
theorem acS {x : za} (h : isT x = false) (z : za) : wG z x = false ∧ wG x z = false := by
 unfold wG
 rw [h]
 simp
theorem akZ {x : za} (hx : isT x = false) (fx : qh x = true) {n : za} {q m a} (h : At n q m a) : qh n = true → qh (ZL q n x) = true := by
 induction h with
 | nil n => exact fun _ => fx
 | cons n i k q m a hi hn hk h ih =>
  intro hf
  have hl := (List.getElem?_eq_some_iff.1 hi).1
  have hr := jJ hf hn
  have hkf := hr.form k (List.mem_of_getElem? hi)
  have e := Jw hi
  rw [jG hi]
  refine aag hf hn ⟨fun y hy => ?_, ?_⟩
  ·rcases List.mem_or_eq_of_mem_set hy with hy | rfl
   ·exact hr.form y hy
   ·exact ih hkf
  ·rw [List.set_eq_take_append_cons_drop, if_pos hl]
   have ha := hr.adj
   rw [e] at ha
   have h1 := JA q k x hk hx
   exact amE _ k _ _ ha (fun z => by rw [(acS h1 z).1, (acS hk z).1]) (fun z => by rw [(acS h1 z).2, (acS hk z).2])
theorem alL {l : List za} {i : Nat} {k : za} (h : l[i]? = some k) : kE l = max (kE (l.take i)) (max (QZ k) (kE (l.drop (i + 1)))) := by
 conv => lhs; rw [Jw h]
 rw [Y7, kE]
theorem At.depth {n : za} {q m a} (h : At n q m a) : q.length + QZ m ≤ QZ n := by
 induction h with
 | nil n => simp
 | cons n i k q m a hi hn hk h ih =>
  have := alL hi
  rw [yG n]
  simp only [List.length_cons]
  omega
theorem arB {x : za} {n : za} {q m a} (h : At n q m a) (h1 : x.Kind = m.Kind) (h2 : x.zq = m.zq) (h3 : x.Text = m.Text) (h4 : x.Marks = m.Marks) : (ZL q n x).Kind = n.Kind ∧ (ZL q n x).zq = n.zq ∧ (ZL q n x).Text = n.Text ∧ (ZL q n x).Marks = n.Marks := by
 cases h with
 | nil n => exact ⟨h1, h2, h3, h4⟩
 | cons n i k q m a hi hn hk h => rw [jG hi]; exact ⟨rfl, rfl, rfl, rfl⟩
theorem KY {l : List za} {i : Nat} {k : za} (h : l[i]? = some k) : tkL l = tkL (l.take i) ++ (tkN k ++ tkL (l.drop (i + 1))) := by
 conv => lhs; rw [Jw h]
 rw [acj, tkL]
theorem awP {n : za} {q m a} (h : At n q m a) : ∃ P S, P.length = a ∧ tkL n.Kids = P ++ (tkL m.Kids ++ S) ∧ ∀ x : za, isT x = false → x.Kind = m.Kind → x.zq = m.zq → tkL (ZL q n x).Kids = P ++ (tkL x.Kids ++ S) := by
 induction h with
 | nil n => exact ⟨[], [], rfl, by simp, fun x _ _ _ => by simp [ZL]⟩
 | cons n i k q m a hi hn hk h ih =>
  obtain ⟨P, S, h1, h2, h3⟩ := ih
  have hl := (List.getElem?_eq_some_iff.1 hi).1
  refine ⟨tkL (n.Kids.take i) ++ (Tk.opn k.Kind k.zq :: P), S ++ (Tk.cls :: tkL (n.Kids.drop (i + 1))), ?_, ?_, fun x hx hk1 hk2 => ?_⟩
  ·simp only [List.length_append, List.length_cons, Zi]; omega
  ·rw [KY hi, wZ, if_neg (by simp [hk]), h2]
   simp only [List.append_assoc, List.cons_append, List.nil_append]
  ·have hkk : (ZL q k x).Kind = k.Kind ∧ (ZL q k x).zq = k.zq := by
    cases h with
    | nil k => exact ⟨hk1, hk2⟩
    | cons k i' k' q m a hi' hn' hk' h => rw [jG hi']; exact ⟨rfl, rfl⟩
   have hnt := JA q k x hk hx
   rw [jG hi]
   simp only
   rw [List.set_eq_take_append_cons_drop, if_pos hl, acj, tkL, wZ, if_neg (by simp [hnt]), h3 x hx hk1 hk2, hkk.1, hkk.2]
   simp only [List.append_assoc, List.cons_append, List.nil_append]
theorem ai8 : ∀ (ls : List (List za)) (i : Int) (s : Nat), s + ls.flatten.length ≤ 1099511627776 → qp ls i (s : Int) = some ((s + ls.flatten.length : Nat) : Int)
 | [], i, s, _ => by simp [qp]
 | y :: ls, i, s, h => by
  simp only [List.flatten_cons, List.length_append] at h
  have e : w64 ((s : Int) + (y.length : Int)) = ((s + y.length : Nat) : Int) := by rw [qx (by omega)]; omega
  have g : decide (((s + y.length : Nat) : Int) < 0) = false := by simp; omega
  rw [qp, e, g]
  simp only [Bool.false_eq_true, if_false]
  rw [ai8 ls _ _ (by omega)]
  simp only [List.flatten_cons, List.length_append, Nat.add_assoc]
theorem aiB : ∀ (ls : List (List za)) (i : Int) (o : List za), o.length + ls.flatten.length ≤ 1099511627776 → qo ls i o = some (o ++ ls.flatten)
 | [], i, o, _ => by simp [qo]
 | y :: ls, i, o, h => by
  simp only [List.flatten_cons, List.length_append] at h
  rw [qo, wW (by omega)]
  simp only [Option.bind_some]
  rw [aiB ls _ _ (by rw [List.length_append]; omega)]
  simp
theorem apo (ls : List (List za)) (hl : ls.length ≤ 9223372036854775807) (h : ls.flatten.length ≤ 1099511627776) : kX ls = some ls.flatten := by
 unfold kX
 have h0 := ai8 ls 0 0 (by omega)
 have h1 := aiB ls 0 [] (by rw [List.length_nil]; omega)
 have e : ((0 : Nat) : Int) = 0 := rfl
 rw [e] at h0
 rw [qf hl, h0]
 simp only [Option.bind_some]
 unfold vZ
 rw [qf (by omega)]
 simp only [Option.bind_some]
 rw [qf hl, h1]
 simp
theorem aqW {l : List za} (h : vS l) : checkN (⟨[120], [], [], [], l⟩ : za) ≠ 2 := by
 have hf : qh (⟨[120], [], [], [], l⟩ : za) = true := by
  have ht : isT (⟨[120], [], [], [], l⟩ : za) = false := rfl
  have h1 : isName [120] = true := by decide +kernel
  have h3 : jD [] = true := rfl
  rw [vW, if_neg (by simp [ht])]
  simp [h1, h3, anQ h]
 unfold checkN
 rw [hf]
 simp only [Bool.true_eq_false, if_false]
 split
 ·simp
 ·split <;> simp
theorem auU {n : za} {f t q m a X Y Z} (h : Flat n f t q m a X Y Z) {l : List za} {K : List za} (hK : items K = X ++ (items l ++ Z)) : ∃ P S, P.length = f ∧ (P ++ tkI Y).length = t ∧ tkL n.Kids = P ++ (tkI Y ++ S) ∧ tkL (ZL q n ({ m with Kids := K } : za)).Kids = P ++ (tkL l ++ S) := by
 obtain ⟨P, S, h1, h2, h3⟩ := awP h.at_
 have e := h3 ({ m with Kids := K } : za) h.nt rfl rfl
 have x1 := Xf X
 have x2 := Xf Y
 have x3 := h.sx
 have x4 := h.sy
 refine ⟨P ++ tkI X, tkI Z ++ S, by simp; omega, by simp; omega, ?_, ?_⟩
 ·rw [h2, ← jh, h.it, KF, KF]
  simp only [List.append_assoc]
 ·rw [e]
  simp only
  rw [← jh K, hK, KF, KF, jh]
  simp only [List.append_assoc]
end Go.Proofs.YtclohbgnaopjfaaGreatDoor
namespace Go.Proofs.YtclohbgnaopjfaaGreatDoor
set_option linter.unusedSimpArgs false
set_option linter.unusedVariables false
open Go
end Go.Proofs.YtclohbgnaopjfaaGreatDoor
namespace Go.Proofs.YtclohbgnaopjfaaGreatDoor
set_option linter.unusedSimpArgs false
set_option linter.unusedVariables false
open Go
def amI : Tk → Nat
 | .sgn _ m => 10 + qX m
 | .opn k a => 2 + k.length + wo a
 | .cls => 0
def tw : List Tk → Nat
 | [] => 0
 | t :: l => amI t + tw l
theorem J5 : ∀ a b : List Tk, tw (a ++ b) = tw a + tw b
 | [], b => by simp [tw]
 | x :: a, b => by simp only [List.cons_append, tw, J5 a b]; omega
theorem akR (m : List Str) : ∀ l : List Int, tw (l.map fun c => Tk.sgn c m) = l.length * (10 + qX m)
 | [] => by simp [tw]
 | c :: l => by simp only [List.map_cons, tw, amI, akR m l, List.length_cons, Nat.add_mul]; omega
theorem adC : ∀ l : List Int, (zK l).length ≤ 4 * l.length
 | [] => by simp [zK]
 | c :: l => by
  rw [Ji, List.length_append, List.length_cons]
  have := (ap1 c).2
  have := adC l
  omega
theorem akA : ∀ l : List za, (∀ n ∈ l, nwt n ≤ tw (tkN n)) → zM l ≤ tw (tkL l)
 | [], _ => by simp [zM]
 | n :: l, h => by
  have h1 := h n (by simp)
  have h2 := akA l fun x hx => h x (by simp [hx])
  simp only [zM, tkL, J5]; omega
theorem auV (n : za) : qh n = true → nwt n ≤ tw (tkN n) := by
 induction n using za.ind with
 | h n ih =>
  intro hf
  rw [qQ, wZ]
  cases ht : isT n with
  | true =>
   obtain ⟨h1, h2, h3, h4, h5⟩ := yF hf ht
   have hk := JS ht
   have hr := adC (runes n.Text)
   rw [WE h2] at hr
   have hl := amg h1
   rw [← yB] at hl
   simp only [if_true]
   rw [akR, h4, h5, hk, Nat.mul_add]
   have : qX n.Marks ≤ (runes n.Text).length * qX n.Marks := Nat.le_mul_of_pos_left _ (by omega)
   simp only [wo, zM, ve, List.length_cons, List.length_nil]
   omega
  | false =>
   have hr := jJ hf ht
   have h1 := akA n.Kids fun x hx => ih x hx (hr.form x hx)
   rw [vW, if_neg (by simp [ht])] at hf
   simp only [Bool.and_eq_true, decide_eq_true_eq] at hf
   simp only [Bool.false_eq_true, if_false, tw, amI, J5]
   rw [hf.1.1.1.2, hf.1.1.2]
   simp only [qX, List.length_nil]
   omega
theorem aec {l : List za} (h : vS l) : zM l ≤ tw (tkL l) := akA l fun n hn => auV n (h.form n hn)
theorem akQ (W : Nat) : ∀ l : List za, (∀ n ∈ l, tw (tkN n) ≤ nwt n * (W + 10)) → tw (tkL l) ≤ zM l * (W + 10)
 | [], _ => by simp [tkL, tw]
 | n :: l, h => by
  have h1 := h n (by simp)
  have h2 := akQ W l fun x hx => h x (by simp [hx])
  simp only [zM, tkL, J5, Nat.add_mul]; omega
def dpT : Nat → List Tk → Nat
 | _, [] => 0
 | d, .opn _ _ :: l => max (d + 1) (dpT (d + 1) l)
 | d, .cls :: l => dpT (d - 1) l
 | d, .sgn _ _ :: l => dpT d l
theorem alq (m : List Str) (d : Nat) (R : List Tk) : ∀ l : List Int, dpT d ((l.map fun c => Tk.sgn c m) ++ R) = dpT d R
 | [] => rfl
 | c :: l => by rw [List.map_cons, List.cons_append, dpT, alq m d R l]
def dOf (d x : Nat) : Nat := if x = 0 then 0 else d + x
theorem aj1 (d : Nat) : ∀ (l : List za) (R : List Tk), (∀ n ∈ l, ∀ R, dpT d (tkN n ++ R) = max (dOf d (xS n)) (dpT d R)) → dpT d (tkL l ++ R) = max (dOf d (wF l)) (dpT d R)
 | [], R, _ => by simp [tkL, wF, dOf]
 | n :: l, R, h => by
  rw [tkL, List.append_assoc, h n (by simp), aj1 d l R fun x hx => h x (by simp [hx]), wF]
  unfold dOf
  split <;> split <;> split <;> omega
theorem asu (n : za) : ∀ (d : Nat) (R : List Tk), dpT d (tkN n ++ R) = max (dOf d (xS n)) (dpT d R) := by
 induction n using za.ind with
 | h n ih =>
  intro d R
  rw [wZ, Z6]
  cases ht : isT n with
  | true =>
   simp only [if_true]
   rw [alq]
   simp [dOf]
  | false =>
   simp only [Bool.false_eq_true, if_false, List.cons_append, List.append_assoc, List.nil_append]
   rw [dpT, aj1 (d + 1) n.Kids _ fun x hx => ih x hx (d + 1), dpT, Nat.add_sub_cancel]
   unfold dOf
   rw [if_neg (show ¬ (wF n.Kids + 1 = 0) by omega)]
   split <;> omega
theorem avg (l : List za) : dpT 0 (tkL l) = wF l := by
 have := aj1 0 l [] fun x _ => asu x 0
 rw [List.append_nil, dpT] at this
 unfold dOf at this
 split at this
 ·rename_i h0; rw [h0]; omega
 ·omega
structure TD (n : za) (T : List Tk) : Prop where
 ok : checkN n = 0
 nt : isT n = false
 tk : tkL n.Kids = T
def wD (n : za) (T : List Tk) : Nat := n.Kind.length + wo n.zq + tw T
theorem aqy {n : za} (h : qh n = true) (ht : isT n = false) : n.Text = [] ∧ n.Marks = [] := by
 rw [vW, if_neg (by simp [ht])] at h
 simp only [Bool.and_eq_true, decide_eq_true_eq] at h
 exact ⟨h.1.1.1.2, h.1.1.2⟩
theorem TD.form {n T} (h : TD n T) : qh n = true := (abY h.ok).1
theorem TD.row {n T} (h : TD n T) : vS n.Kids := jJ h.form h.nt
theorem au8 {n : za} {T : List Tk} (hf : qh n = true) (ht : isT n = false) (hT : tkL n.Kids = T) : nwt n ≤ 2 + wD n T := by
 obtain ⟨h1, h2⟩ := aqy hf ht
 have := aec (jJ hf ht)
 rw [hT] at this
 rw [qQ, h1, h2]
 unfold wD
 simp only [qX, List.length_nil]
 omega
theorem TD.wt {n T} (h : TD n T) : nwt n ≤ 2 + wD n T := au8 h.form h.nt h.tk
theorem TD.rn {n T} (h : TD n T) (hw : wD n T ≤ 100000000) : RN n := ⟨h.ok, h.nt, by have := h.wt; omega⟩
theorem TD.len {n T} (h : TD n T) : T.length = zD n.Kids := by rw [← h.tk, Zi]
theorem TD.size {n T} (h : TD n T) : wE n = 2 + T.length := by rw [yl h.nt, h.len]
theorem TD.small {n T} (h : TD n T) : T.length ≤ 3998 := by
 have := (abY h.ok).2.2
 rw [h.size] at this
 omega
theorem TD.ext {a b T} (ha : TD a T) (hb : TD b T) (hk : a.Kind = b.Kind) (hat : a.zq = b.zq) : a = b :=
 VZ ha.form hb.form ha.nt hb.nt hk hat (aoK ha.row hb.row (by rw [ha.tk, hb.tk]))
theorem amR {n : za} (hf : qh n = true) (ht : isT n = false) {T : List Tk} (hT : tkL n.Kids = T) : checkN n = if 40 < dpT 0 T + 1 then 4 else if 4000 < 2 + T.length then 5 else 0 := by
 have h1 : xS n = dpT 0 T + 1 := by rw [Z6, if_neg (by simp [ht]), ← avg, hT]
 have h2 : wE n = 2 + T.length := by rw [yl ht, ← Zi, hT]
 unfold checkN
 rw [hf, if_neg (show ¬ (true = false) by simp), h1, h2]
theorem TD.of {n : za} {T : List Tk} (hf : qh n = true) (ht : isT n = false) (hT : tkL n.Kids = T) (hd : dpT 0 T ≤ 39) (hl : T.length ≤ 3998) : TD n T :=
 ⟨by rw [amR hf ht hT, if_neg (by omega), if_neg (by omega)], ht, hT⟩
theorem TD.deep {n T} (h : TD n T) : dpT 0 T ≤ 39 := by
 have := h.ok
 rw [amR h.form h.nt h.tk] at this
 split at this
 ·cases this
 ·omega
theorem arH {S : List Tk} (h : aqG S) (R : List Tk) : aqG (S ++ Tk.cls :: R) := by
 cases S with
 | nil => trivial
 | cons t S => cases t <;> first | trivial | exact h.elim
theorem at_end {n : za} {q m a} (h : At n q m a) : ∃ P S, P.length = a ∧ tkL n.Kids = P ++ (tkL m.Kids ++ S) ∧ aqG S := by
 induction h with
 | nil n => exact ⟨[], [], rfl, by simp, trivial⟩
 | cons n i k q m a hi hn hk h ih =>
  obtain ⟨P, S, h1, h2, h3⟩ := ih
  refine ⟨tkL (n.Kids.take i) ++ (Tk.opn k.Kind k.zq :: P), S ++ (Tk.cls :: tkL (n.Kids.drop (i + 1))), ?_, ?_, arH h3 _⟩
  ·simp only [List.length_append, List.length_cons, Zi]; omega
  ·rw [KY hi, wZ, if_neg (by simp [hk]), h2]
   simp only [List.append_assoc, List.cons_append, List.nil_append]
theorem adS : ∀ (Y Z : List It) (R S : List Tk), FI Y → FI Z → aqG S → tkI Y ++ R = tkI Z ++ S → ∃ Z', Z = Y ++ Z' ∧ R = tkI Z' ++ S
 | [], Z, R, S, _, _, _, h => ⟨Z, rfl, by simpa [tkI] using h⟩
 | i :: Y, [], R, S, fy, _, hS, h => by
  exfalso
  rw [ZP] at h
  cases i with
  | sgn c m =>
   simp only [XL, tkI, List.flatMap_nil, List.nil_append, List.cons_append] at h
   rw [← h] at hS
   exact hS
  | nod n =>
   have := (fy n (by simp)).1
   simp only [XL, tkI, List.flatMap_nil, List.nil_append] at h
   rw [wZ, this] at h
   simp only [Bool.false_eq_true, if_false, List.cons_append] at h
   rw [← h] at hS
   exact hS
 | i :: Y, j :: Z, R, S, fy, fz, hS, h => by
  have fy' : FI Y := fun n hn => fy n (by simp [hn])
  have fz' : FI Z := fun n hn => fz n (by simp [hn])
  rw [ZP, ZP] at h
  cases i with
  | sgn c m =>
   cases j with
   | sgn c' m' =>
    simp only [XL, List.cons_append, List.nil_append, List.cons.injEq, Tk.sgn.injEq] at h
    obtain ⟨⟨rfl, rfl⟩, h⟩ := h
    obtain ⟨Z', rfl, h2⟩ := adS Y Z R S fy' fz' hS h
    exact ⟨Z', rfl, h2⟩
   | nod n =>
    exfalso
    have := (fz n (by simp)).1
    simp only [XL] at h
    rw [wZ, this] at h
    simp at h
  | nod n =>
   obtain ⟨tn, fn⟩ := fy n (by simp)
   cases j with
   | sgn c m =>
    exfalso
    simp only [XL] at h
    rw [wZ, tn] at h
    simp at h
   | nod n' =>
    obtain ⟨tn', fn'⟩ := fz n' (by simp)
    simp only [XL] at h
    rw [wZ, wZ, tn, tn'] at h
    simp only [Bool.false_eq_true, if_false, List.cons_append, List.append_assoc, List.nil_append, List.cons.injEq, Tk.opn.injEq] at h
    obtain ⟨⟨hk, hat⟩, h⟩ := h
    have r1 := jJ fn tn
    have r2 := jJ fn' tn'
    rw [← jh, ← jh] at h
    obtain ⟨e1, e2⟩ := agl _ (items n.Kids) (items n'.Kids) (Tk.cls :: (tkI Y ++ R)) (Tk.cls :: (tkI Z ++ S)) (Nat.le_refl _) (WC r1.form) (WC r2.form) trivial trivial h
    have e4 := VZ fn fn' tn tn' hk hat (ahl r1 r2 e1)
    subst e4
    simp only [List.cons.injEq, true_and] at e2
    obtain ⟨Z', rfl, h2⟩ := adS Y Z R S fy' fz' hS e2
    exact ⟨Z', rfl, h2⟩
theorem YI {α : Type} {a b c d : List α} (h : a ++ b = c ++ d) (hl : a.length = c.length) : a = c ∧ b = d := List.append_inj h hl
theorem atG {n : za} {T P S : List Tk} {Y : List It} (h : TD n T) (hw : wD n T ≤ 100000000) (hT : T = P ++ (tkI Y ++ S)) (fy : FI Y) :
  ∃ q m a X Z, Flat n P.length (P.length + szI Y) q m a X Y Z ∧ ∃ P1 S1, P = P1 ++ tkI X ∧ S = tkI Z ++ S1 := by
 have hn := h.rn hw
 have hl := h.len
 have hp : P.length ≤ zD n.Kids := by rw [← hl, hT]; simp
 obtain ⟨q, m, a, X, Z0, hF⟩ := asY hn hp
 obtain ⟨P1, S1, e1, e2, e3⟩ := at_end hF.at_
 have hit := hF.it
 rw [List.nil_append] at hit
 rw [← jh m.Kids, hit, KF, h.tk, hT, ← List.append_assoc, ← List.append_assoc, ← List.append_assoc, List.append_assoc (P1 ++ tkI X), List.append_assoc P] at e2
 have hsx := hF.sx
 obtain ⟨g1, g2⟩ := YI e2 (by rw [List.length_append, Xf]; omega)
 have fm := jJ (hF.at_.form hn.form) hF.nt
 have fi := WC fm.form
 rw [hit] at fi
 obtain ⟨Z', rfl, g3⟩ := adS Y Z0 S S1 fy (fun x hx => fi x (by simp [hx])) e3 g2
 exact ⟨q, m, a, X, Z', ⟨hF.at_, hF.nt, hit, hF.sx, rfl⟩, P1, S1, g1, g3⟩
theorem ata {n : za} (hn : RN n) (hw : nwt n ≤ 1000000000) {f t q m a X Y Z} (h : Flat n f t q m a X Y Z) {l : List za} (hl : ∀ x ∈ l, qh x = true) (hlw : zM l ≤ 1000000000) :
  ∃ K N, N = ZL q n ({ m with Kids := K } : za) ∧ vS K ∧ items K = X ++ (items l ++ Z) ∧ qh N = true ∧ isT N = false ∧ yn n (f : Int) (t : Int) l = some (if checkN N = 0 then (N, 0) else (afo, checkN N)) := by
 have hwh := anX hn h
 obtain ⟨h1, h2, h3, h4, h5⟩ := h
 have hr := jJ (h1.form hn.form) h2
 have w1 := h1.wt
 have w2 := vN m
 obtain ⟨A, A', s1, a1, a2, a3, a4, a5, a6, a7, a8⟩ := amF hr (by omega) (X := X) (Y := Y ++ Z) h3
 obtain ⟨B', B, s2, b1, b2, b3, b4, b5, b6, b7, b8⟩ := amF hr (by omega) (X := X ++ Y) (Y := Z) (by rw [h3, List.append_assoc])
 have hall : ∀ x ∈ A ++ (l ++ B), qh x = true := by
  intro x hx
  rcases List.mem_append.1 hx with hx | hx
  ·exact a1.form x hx
  ·rcases List.mem_append.1 hx with hx | hx
   ·exact hl x hx
   ·exact b2.form x hx
 obtain ⟨kr, ki⟩ := ad9 hall
 obtain ⟨lr, li⟩ := ad9 hl
 have kw := YF (A ++ (l ++ B))
 rw [kV, kV] at kw
 rw [ZI, ZI, a3, b4] at ki
 have hlw2 := kv (A ++ (l ++ B))
 rw [kV, kV] at hlw2
 generalize hK : xG (A ++ (l ++ B)) = K at *
 have hx : isT ({ m with Kids := K } : za) = false := h2
 have fx := aag (h1.form hn.form) h2 kr
 have wx : nwt ({ m with Kids := K } : za) + zM m.Kids = nwt m + zM K := by
  rw [qQ, qQ m]; simp only; omega
 have hrw := auR (x := ({ m with Kids := K } : za)) h1
 have hfN := akZ hx fx h1 hn.form
 have htN := JA q n _ hn.nt hx
 refine ⟨K, _, rfl, kr, ki, hfN, htN, ?_⟩
 have g2 := aqW lr
 have hjw := YF l
 have hxw : nwt (⟨[120], [], [], [], xG l⟩ : za) ≤ 1099511627776 := by
  rw [qQ]; simp only [qX, wo, List.length_cons, List.length_nil]; omega
 unfold yn
 rw [hwh]
 simp only [Option.bind_some]
 have z2 : ((0 : Int) == 2) = false := rfl
 simp only [z2, Bool.false_eq_true, if_false]
 rw [adp l (by omega)]
 simp only [Option.bind_some]
 rw [Yj _ hxw]
 have g2' : (checkN (⟨[120], [], [], [], xG l⟩ : za) == 2) = false := by simpa using g2
 simp only [Option.bind_some, g2', Bool.false_eq_true, if_false, bne_self_eq_false]
 rw [s1]
 simp only [Option.bind_some]
 rw [Q9] at s2
 rw [s2]
 simp only [Option.bind_some]
 have hflat : ([A, l, B] : List (List za)).flatten = A ++ (l ++ B) := by simp
 rw [apo _ (by simp) (by rw [hflat]; omega), hflat]
 simp only [Option.bind_some]
 rw [adp _ (by rw [kV, kV]; omega), hK]
 simp only [Option.bind_some]
 rw [aoh h1 hn.nt (by omega)]
 simp only [Option.bind_some]
 rw [Yj _ (by omega)]
 simp only [Option.bind_some]
 by_cases hc : checkN (ZL q n ({ m with Kids := K } : za)) = 0
 ·rw [hc]; simp
 ·simp [hc]
theorem atr {n : za} {T P S : List Tk} {Y : List It} (h : TD n T) (hw : wD n T ≤ 100000000) (hT : T = P ++ (tkI Y ++ S)) (fy : FI Y) {l : List za} (hl : ∀ x ∈ l, qh x = true) (hlw : zM l ≤ 1000000000) :
  ∃ N, qh N = true ∧ isT N = false ∧ N.Kind = n.Kind ∧ N.zq = n.zq ∧ tkL N.Kids = P ++ (tkL l ++ S) ∧ yn n (P.length : Int) ((P.length + szI Y : Nat) : Int) l = some (if checkN N = 0 then (N, 0) else (afo, checkN N)) := by
 obtain ⟨q, m, a, X, Z, hF, _⟩ := atG h hw hT fy
 have hn := h.rn hw
 have hwt := h.wt
 obtain ⟨K, N, rfl, hK, hi, hf, ht, hp⟩ := ata hn (by omega) hF hl hlw
 obtain ⟨P', S', p1, p2, p3, p4⟩ := auU hF hi
 obtain ⟨k1, k2, _, _⟩ := arB (x := ({ m with Kids := K } : za)) hF.at_ rfl rfl rfl rfl
 refine ⟨_, hf, ht, k1, k2, ?_, hp⟩
 rw [h.tk, hT] at p3
 obtain ⟨g1, g2⟩ := YI p3 p1.symm
 obtain ⟨_, g3⟩ := YI g2 rfl
 rw [p4, ← g1, ← g3]
end Go.Proofs.YtclohbgnaopjfaaGreatDoor
namespace Go.Proofs.YtclohbgnaopjfaaGreatDoor
set_option linter.unusedSimpArgs false
set_option linter.unusedVariables false
open Go Classical
theorem xL : ∀ x : Str, Op.bytesLess x x = false
 | [] => rfl
 | a :: x => by
  have h : ¬ a < a := by rw [UInt8.lt_iff_toNat_lt]; omega
  simp [Op.bytesLess, xL x]
theorem YQ : ∀ x y z : Str, Op.bytesLess x y = true → Op.bytesLess y z = true → Op.bytesLess x z = true
 | _, [], _, h, _ => by simp [Op.bytesLess] at h
 | _, _ :: _, [], _, h => by simp [Op.bytesLess] at h
 | [], _ :: _, _ :: _, _, _ => rfl
 | a :: x, b :: y, c :: z, h1, h2 => by
  simp only [Op.bytesLess, Bool.or_eq_true, Bool.and_eq_true, decide_eq_true_eq, beq_iff_eq, UInt8.lt_iff_toNat_lt] at h1 h2 ⊢
  rcases h1 with h1 | ⟨rfl, h1⟩
  ·rcases h2 with h2 | ⟨rfl, h2⟩
   ·exact .inl (by omega)
   ·exact .inl h1
  ·rcases h2 with h2 | ⟨rfl, h2⟩
   ·exact .inl h2
   ·exact .inr ⟨rfl, YQ x y z h1 h2⟩
theorem anK : ∀ x y : Str, Op.bytesLess x y = true ∨ x = y ∨ Op.bytesLess y x = true
 | [], [] => .inr (.inl rfl)
 | [], _ :: _ => .inl rfl
 | _ :: _, [] => .inr (.inr rfl)
 | a :: x, b :: y => by
  simp only [Op.bytesLess, Bool.or_eq_true, Bool.and_eq_true, decide_eq_true_eq, beq_iff_eq, UInt8.lt_iff_toNat_lt, List.cons.injEq]
  by_cases h : a = b
  ·subst h
   rcases anK x y with h1 | h1 | h1
   ·exact .inl (.inr ⟨rfl, h1⟩)
   ·exact .inr (.inl ⟨rfl, h1⟩)
   ·exact .inr (.inr (.inr ⟨rfl, h1⟩))
  ·have : a.toNat ≠ b.toNat := fun e => h (UInt8.toNat_inj.1 e)
   rcases Nat.lt_or_gt_of_ne this with h1 | h1
   ·exact .inl (.inl h1)
   ·exact .inr (.inr (.inl h1))
theorem arl {x y : Str} (h : Op.bytesLess x y = true) : Op.bytesLess y x = false := by
 cases h2 : Op.bytesLess y x with
 | false => rfl
 | true => have := YQ x y x h h2; rw [xL] at this; cases this
theorem YD {x : Str} (h : isName x = true) : x.length ≤ 20 := by
 unfold isName at h
 simp only [Bool.and_eq_true, decide_eq_true_eq] at h
 have := h.1.2
 omega
abbrev BL (a b : Str) : Prop := Op.bytesLess a b = true
theorem abO : ∀ (l : List Str) (last : Option Str), ym last l = true ↔ (∀ x ∈ l, isName x = true) ∧ l.Pairwise BL ∧ ∀ x, last = some x → ∀ y ∈ l, BL x y
 | [], last => by simp [ym]
 | y :: l, none => by
  rw [KR, Bool.and_eq_true, Bool.and_eq_true, abO l (some y)]
  simp only [List.mem_cons, forall_eq_or_imp, List.pairwise_cons, Option.some.injEq, forall_eq', and_true, reduceCtorEq, false_implies, implies_true]
  constructor
  ·rintro ⟨h1, h3, h4, h5⟩
   exact ⟨⟨h1, h3⟩, h5, h4⟩
  ·rintro ⟨⟨h1, h3⟩, h5, h4⟩
   exact ⟨h1, h3, h4, h5⟩
 | y :: l, some x => by
  rw [KR, Bool.and_eq_true, Bool.and_eq_true, abO l (some y)]
  have key : (!(Op.bytesLess y x || y == x)) = true ↔ BL x y := by
   simp only [Bool.not_eq_true', Bool.or_eq_false_iff, beq_eq_false_iff_ne]
   constructor
   ·rintro ⟨h1, h2⟩
    rcases anK x y with h | h | h
    ·exact h
    ·exact absurd h.symm h2
    ·rw [h1] at h; cases h
   ·intro h
    exact ⟨arl h, fun e => by subst e; rw [BL, xL] at h; cases h⟩
  simp only [key, List.mem_cons, forall_eq_or_imp, List.pairwise_cons, Option.some.injEq, forall_eq']
  constructor
  ·rintro ⟨⟨h1, h2⟩, h3, h4, h5⟩
   exact ⟨⟨h1, h3⟩, ⟨h5, h4⟩, h2, fun z hz => YQ _ _ _ h2 (h5 z hz)⟩
  ·rintro ⟨⟨h1, h3⟩, ⟨h5, h4⟩, h6, _⟩
   exact ⟨⟨h1, h6⟩, h3, h4, h5⟩
theorem Wy (l : List Str) : jD l = true ↔ (∀ x ∈ l, isName x = true) ∧ l.Pairwise BL := by
 unfold jD
 rw [abO]
 simp
theorem ahX : ∀ (a b : List Str), a.Pairwise BL → b.Pairwise BL → (∀ y, y ∈ a ↔ y ∈ b) → a = b
 | [], [], _, _, _ => rfl
 | [], y :: b, _, _, h => by have := (h y).2 (by simp); cases this
 | x :: a, [], _, _, h => by have := (h x).1 (by simp); cases this
 | x :: a, y :: b, ha, hb, h => by
  rw [List.pairwise_cons] at ha hb
  have e : x = y := by
   rcases (List.mem_cons.1 ((h x).1 (by simp))) with h1 | h1
   ·exact h1
   ·rcases (List.mem_cons.1 ((h y).2 (by simp))) with h2 | h2
    ·exact h2.symm
    ·have := YQ _ _ _ (hb.1 x h1) (ha.1 y h2)
     rw [xL] at this
     cases this
  subst e
  have nx : ∀ z, BL x z → z ≠ x := fun z hz e => by subst e; rw [BL, xL] at hz; cases hz
  rw [ahX a b ha.2 hb.2 fun z => ?_]
  constructor
  ·intro hz
   rcases List.mem_cons.1 ((h z).1 (by simp [hz])) with h1 | h1
   ·exact absurd h1 (nx z (ha.1 z hz))
   ·exact h1
  ·intro hz
   rcases List.mem_cons.1 ((h z).2 (by simp [hz])) with h1 | h1
   ·exact absurd h1 (nx z (hb.1 z hz))
   ·exact h1
theorem alu {a b : List Str} (ha : jD a = true) (hb : jD b = true) (h : ∀ y, y ∈ a ↔ y ∈ b) : a = b := ahX a b ((Wy a).1 ha).2 ((Wy b).1 hb).2 h
theorem Xk (x : Str) : ∀ m : List Str, m.Pairwise BL → ∃ A B, m = A ++ B ∧ (∀ y ∈ A, BL y x) ∧ ∀ y ∈ B, Op.bytesLess y x = false
 | [], _ => ⟨[], [], rfl, by simp, by simp⟩
 | z :: m, h => by
  rw [List.pairwise_cons] at h
  cases hz : Op.bytesLess z x with
  | true =>
   obtain ⟨A, B, e, h1, h2⟩ := Xk x m h.2
   exact ⟨z :: A, B, by rw [e]; rfl, by simp only [List.mem_cons, forall_eq_or_imp]; exact ⟨hz, h1⟩, h2⟩
  | false =>
   refine ⟨[], z :: m, rfl, by simp, ?_⟩
   simp only [List.mem_cons, forall_eq_or_imp]
   refine ⟨hz, fun y hy => ?_⟩
   cases hy' : Op.bytesLess y x with
   | false => rfl
   | true => have := YQ _ _ _ (h.1 y hy) hy'; rw [hz] at this; cases this
theorem aew (less : Nat → Bool) (k n : Nat) (h1 : ∀ t, t < k → less t = true) (h2 : ∀ t, k ≤ t → t < n → less t = false) : ∀ (f lo hi : Nat), hi - lo ≤ f → lo ≤ k → k ≤ hi → hi ≤ n → Lib.bsGo less f lo hi = k
 | 0, lo, hi, hf, a, b, _ => by simp [Lib.bsGo]; omega
 | f + 1, lo, hi, hf, a, b, c => by
  unfold Lib.bsGo
  by_cases h : lo < hi
  ·rw [if_pos h]
   by_cases hm : (lo + hi) / 2 < k
   ·rw [h1 _ hm, if_pos rfl]; exact aew less k n h1 h2 f _ _ (by omega) (by omega) b c
   ·rw [h2 _ (by omega) (by omega), if_neg (by simp)]; exact aew less k n h1 h2 f _ _ (by omega) a (by omega) (by omega)
  ·rw [if_neg h]; omega
theorem apX {x : Str} {A B : List Str} (hA : ∀ y ∈ A, BL y x) (hB : ∀ y ∈ B, Op.bytesLess y x = false) : bsI (A ++ B) x = A.length := by
 unfold bsI
 refine aew _ A.length (A ++ B).length (fun t ht => ?_) (fun t ht ht' => ?_) _ _ _ (by omega) (by omega) (by simp) (by simp)
 ·rw [List.getD_eq_getElem?_getD, List.getElem?_append_left ht, List.getElem?_eq_getElem ht]
  exact hA _ (List.getElem_mem ht)
 ·rw [List.getD_eq_getElem?_getD, List.getElem?_eq_getElem ht', List.getElem_append_right ht]
  exact hB _ (List.getElem_mem _)
def mkS (k : Int) (x : Str) (m : List Str) : List Str := (ZV k x m).1
theorem ak1 {x : Str} {A B : List Str} (hs : (A ++ B).Pairwise BL) (hA : ∀ y ∈ A, BL y x) (hB : ∀ y ∈ B, Op.bytesLess y x = false) (k : Int) :
  (x ∈ A ++ B ∧ ∃ B', B = x :: B' ∧ (∀ y ∈ B', y ≠ x) ∧ ZV k x (A ++ B) = (if k = 109 then (A ++ B, false) else (A ++ B', true))) ∨
  (x ∉ A ++ B ∧ ZV k x (A ++ B) = (if k = 109 then (A ++ x :: B, true) else (A ++ B, false))) := by
 have hnA : x ∉ A := fun h => by have := hA x h; rw [BL, xL] at this; cases this
 have hi := apX hA hB
 have hd : ac0 (A ++ B) A.length = A ++ B.drop 1 := by simp [ac0]
 have hn : Vf (A ++ B) A.length x = A ++ x :: B := by simp [Vf]
 unfold ZV
 rw [hi, hd, hn]
 cases B with
 | nil =>
  right
  rw [List.append_nil] at hs ⊢
  refine ⟨hnA, ?_⟩
  have : decide (A.length < A.length ∧ A.getD A.length [] = x) = false := by simp
  rw [this]
  by_cases h : k = 109 <;> simp [h]
 | cons y B =>
  have hg : (A ++ y :: B).getD A.length [] = y := by simp
  rw [hg]
  have hlt : A.length < (A ++ y :: B).length := by simp
  rw [List.pairwise_append, List.pairwise_cons] at hs
  by_cases e : y = x
  ·subst e
   left
   refine ⟨by simp, B, rfl, fun z hz e => ?_, ?_⟩
   ·subst e
    have := hs.2.1.1 z hz
    rw [BL, xL] at this
    cases this
   have : decide (A.length < (A ++ y :: B).length ∧ y = y) = true := by simp
   rw [this]
   by_cases h : k = 109 <;> simp [h]
  ·right
   refine ⟨fun hx => ?_, ?_⟩
   ·rcases List.mem_append.1 hx with h | h
    ·exact hnA h
    ·rcases List.mem_cons.1 h with h | h
     ·exact e h.symm
     ·have h1 := hs.2.1.1 x h
      have h9 := hB y (by simp)
      rw [show Op.bytesLess y x = true from h1] at h9
      cases h9
   ·have : decide (A.length < (A ++ y :: B).length ∧ y = x) = false := by simp [e]
    rw [this]
    by_cases h : k = 109 <;> simp [h]
theorem asE {x : Str} {m : List Str} (hm : jD m = true) (hx : isName x = true) : jD (mkS 109 x m) = true ∧ (∀ y, y ∈ mkS 109 x m ↔ y = x ∨ y ∈ m) ∧ (ZV 109 x m).2 = decide (x ∉ m) := by
 obtain ⟨h1, h2⟩ := (Wy m).1 hm
 obtain ⟨A, B, rfl, hA, hB⟩ := Xk x m h2
 unfold mkS
 rcases ak1 h2 hA hB 109 with ⟨hin, B', rfl, _, e⟩ | ⟨hin, e⟩
 ·rw [e, if_pos rfl]
  refine ⟨hm, fun y => ?_, by simp⟩
  constructor
  ·exact .inr
  ·rintro (rfl | h)
   ·exact hin
   ·exact h
 ·rw [e, if_pos rfl]
  have hx' : ∀ y ∈ B, BL x y := fun y hy => by
   rcases anK x y with h | h | h
   ·exact h
   ·subst h; exact absurd (List.mem_append.2 (.inr hy)) hin
   ·have h9 := hB y hy; rw [show Op.bytesLess y x = true from h] at h9; cases h9
  rw [List.pairwise_append] at h2
  refine ⟨(Wy _).2 ⟨?_, ?_⟩, fun y => ?_, by simp [hin]⟩
  ·intro y hy
   rcases List.mem_append.1 hy with h | h
   ·exact h1 y (by simp [h])
   ·rcases List.mem_cons.1 h with rfl | h
    ·exact hx
    ·exact h1 y (by simp [h])
  ·rw [List.pairwise_append, List.pairwise_cons]
   refine ⟨h2.1, ⟨hx', h2.2.1⟩, fun a ha b hb => ?_⟩
   rcases List.mem_cons.1 hb with rfl | hb
   ·exact hA a ha
   ·exact h2.2.2 a ha b hb
  ·simp only [List.mem_append, List.mem_cons]
   constructor
   ·rintro (h | h | h)
    ·exact .inr (.inl h)
    ·exact .inl h
    ·exact .inr (.inr h)
   ·rintro (h | h | h)
    ·exact .inr (.inl h)
    ·exact .inl h
    ·exact .inr (.inr h)
theorem amZ {k : Int} (hk : k ≠ 109) {x : Str} {m : List Str} (hm : jD m = true) : jD (mkS k x m) = true ∧ (∀ y, y ∈ mkS k x m ↔ y ≠ x ∧ y ∈ m) ∧ (ZV k x m).2 = decide (x ∈ m) := by
 obtain ⟨h1, h2⟩ := (Wy m).1 hm
 obtain ⟨A, B, rfl, hA, hB⟩ := Xk x m h2
 unfold mkS
 rcases ak1 h2 hA hB k with ⟨hin, B', rfl, hB', e⟩ | ⟨hin, e⟩
 ·rw [e, if_neg hk]
  have hnA : x ∉ A := fun h => by have := hA x h; rw [BL, xL] at this; cases this
  rw [List.pairwise_append, List.pairwise_cons] at h2
  refine ⟨(Wy _).2 ⟨fun y hy => ?_, ?_⟩, fun y => ?_, by simp⟩
  ·rcases List.mem_append.1 hy with h | h
   ·exact h1 y (by simp [h])
   ·exact h1 y (by simp [h])
  ·rw [List.pairwise_append]
   exact ⟨h2.1, h2.2.1.2, fun a ha b hb => h2.2.2 a ha b (by simp [hb])⟩
  ·simp only [List.mem_append, List.mem_cons]
   constructor
   ·rintro (h | h)
    ·exact ⟨fun e => hnA (e ▸ h), .inl h⟩
    ·exact ⟨hB' y h, .inr (.inr h)⟩
   ·rintro ⟨h, h3 | h3 | h3⟩
    ·exact .inl h3
    ·exact absurd h3 h
    ·exact .inr h3
 ·rw [e, if_neg hk]
  refine ⟨hm, fun y => ?_, by simp [hin]⟩
  constructor
  ·intro h
   exact ⟨fun e => hin (e ▸ h), h⟩
  ·exact fun h => h.2
theorem at0 (k : Int) {x : Str} {m : List Str} (hm : jD m = true) (hx : isName x = true) : jD (mkS k x m) = true := by
 by_cases h : k = 109
 ·subst h; exact (asE hm hx).1
 ·exact (amZ h hm).1
theorem atS (k : Int) {x : Str} {m : List Str} (hm : jD m = true) (hx : isName x = true) : (ZV k x m).2 = decide (mkS k x m ≠ m) := by
 by_cases h : k = 109
 ·subst h
  obtain ⟨h1, h2, h3⟩ := asE hm hx
  rw [h3]
  congr 1
  apply propext
  constructor
  ·intro h4 e
   have := (h2 x).2 (.inl rfl)
   rw [e] at this
   exact h4 this
  ·intro h4 h5
   refine h4 (alu h1 hm fun y => ?_)
   rw [h2]
   constructor
   ·rintro (rfl | h)
    ·exact h5
    ·exact h
   ·exact .inr
 ·obtain ⟨h1, h2, h3⟩ := amZ h hm (x := x)
  rw [h3]
  congr 1
  apply propext
  constructor
  ·intro h4 e
   rw [← e, h2] at h4
   exact h4.1 rfl
  ·intro h4
   by_cases h5 : x ∈ m
   ·exact h5
   ·refine absurd (alu h1 hm fun y => ?_) h4
    rw [h2]
    exact ⟨fun h => h.2, fun h => ⟨fun e => h5 (e ▸ h), h⟩⟩
end Go.Proofs.YtclohbgnaopjfaaGreatDoor
namespace Go.Proofs.YtclohbgnaopjfaaGreatDoor
set_option linter.unusedSimpArgs false
set_option linter.unusedVariables false
open Go Classical
section
variable (k : Int) (x : Str) (a b : Nat)
def mkT (i : Nat) : Tk → Tk
 | .sgn c m => .sgn c (if a ≤ i ∧ i < b then mkS k x m else m)
 | t => t
theorem aaf (i : Nat) (c : Int) (m : List Str) : mkT k x a b i (.sgn c m) = .sgn c (if a ≤ i ∧ i < b then mkS k x m else m) := rfl
theorem aks (i : Nat) (c : Str) (m : List zf) : mkT k x a b i (.opn c m) = .opn c m := rfl
theorem aoq (i : Nat) : mkT k x a b i .cls = .cls := rfl
def kK : Nat → List Tk → List Tk
 | _, [] => []
 | i, t :: l => mkT k x a b i t :: kK (i + 1) l
theorem adZ : ∀ (l r : List Tk) (i : Nat), kK k x a b i (l ++ r) = kK k x a b i l ++ kK k x a b (i + l.length) r
 | [], r, i => by simp [kK]
 | t :: l, r, i => by
  rw [List.cons_append, kK, kK, adZ l r (i + 1), List.cons_append, List.length_cons]
  congr 3
  omega
theorem aja : ∀ (l : List Tk) (i : Nat), (kK k x a b i l).length = l.length
 | [], i => rfl
 | t :: l, i => by rw [kK, List.length_cons, List.length_cons, aja l]
theorem aes : ∀ (l : List Tk) (i j : Nat), (kK k x a b i l)[j]? = (l[j]?).map (mkT k x a b (i + j))
 | [], i, j => by simp [kK]
 | t :: l, i, 0 => by simp [kK]
 | t :: l, i, j + 1 => by
  rw [kK, List.getElem?_cons_succ, List.getElem?_cons_succ, aes l (i + 1) j]
  congr 2
  omega
theorem Xb : ∀ (l : List Tk) (i d : Nat), dpT d (kK k x a b i l) = dpT d l
 | [], i, d => rfl
 | .sgn c m :: l, i, d => by rw [kK, aaf, dpT, dpT, Xb l]
 | .opn c m :: l, i, d => by rw [kK, aks, dpT, dpT, Xb l]
 | .cls :: l, i, d => by rw [kK, aoq, dpT, dpT, Xb l]
theorem arC (m : List Str) : qX (mkS k x m) ≤ qX m + 1 + x.length := by
 have ins : ∀ (m : List Str) (i : Nat), qX (Vf m i x) = qX m + (1 + x.length) := by
  intro m i
  have app : ∀ p q : List Str, qX (p ++ q) = qX p + qX q := by
   intro p q
   induction p with
   | nil => simp [qX]
   | cons y p ih => simp only [List.cons_append, qX, ih]; omega
  have h := app (m.take i) (m.drop i)
  rw [List.take_append_drop] at h
  unfold Vf
  rw [app, qX]
  omega
 have del : ∀ (m : List Str) (i : Nat), qX (ac0 m i) ≤ qX m := by
  intro m i
  have app : ∀ p q : List Str, qX (p ++ q) = qX p + qX q := by
   intro p q
   induction p with
   | nil => simp [qX]
   | cons y p ih => simp only [List.cons_append, qX, ih]; omega
  have h := app (m.take i) (m.drop i)
  rw [List.take_append_drop] at h
  have h2 := app ((m.drop i).take 1) ((m.drop i).drop 1)
  rw [List.take_append_drop, List.drop_drop] at h2
  unfold ac0
  rw [app]
  omega
 unfold mkS ZV
 split
 ·show qX m ≤ _; omega
 ·split
  ·have := del m (bsI m x); show qX (ac0 m (bsI m x)) ≤ _; omega
  ·have := ins m (bsI m x); show qX (Vf m (bsI m x) x) ≤ _; omega
theorem acI : ∀ (l : List Tk) (i : Nat), tw (kK k x a b i l) ≤ tw l + l.length * (1 + x.length)
 | [], i => by simp [kK, tw]
 | .sgn c m :: l, i => by
  have h1 := acI l (i + 1)
  have h2 := arC k x m
  rw [kK, aaf, tw, tw, amI, amI, List.length_cons, Nat.add_mul]
  split <;> omega
 | .opn c m :: l, i => by
  have h1 := acI l (i + 1)
  rw [kK, aks, tw, tw, List.length_cons, Nat.add_mul]
  omega
 | .cls :: l, i => by
  have h1 := acI l (i + 1)
  rw [kK, aoq, tw, tw, List.length_cons, Nat.add_mul]
  omega
def adh (o : List zi) (i : Nat) : List zi :=
 match o.getLast? with
 | some r => if r.Pos + r.Old = i then o.dropLast ++ [{ r with Old := r.Old + 1 }] else o ++ [⟨i, 1, 0⟩]
 | none => [⟨i, 1, 0⟩]
def avn (i : Nat) (o : List zi) : Tk → List zi
 | .sgn _ m => if a ≤ i ∧ i < b ∧ mkS k x m ≠ m then adh o i else o
 | _ => o
theorem alz (i : Nat) (o : List zi) (c : Int) (m : List Str) : avn k x a b i o (.sgn c m) = if a ≤ i ∧ i < b ∧ mkS k x m ≠ m then adh o i else o := rfl
def KH : Nat → List Tk → List zi → List zi
 | _, [], o => o
 | i, t :: l, o => KH (i + 1) l (avn k x a b i o t)
theorem ahC : ∀ (l r : List Tk) (i : Nat) (o : List zi), KH k x a b i (l ++ r) o = KH k x a b (i + l.length) r (KH k x a b i l o)
 | [], r, i, o => by simp [KH]
 | t :: l, r, i, o => by
  rw [List.cons_append, KH, KH, ahC l r (i + 1), List.length_cons]
  congr 1
  omega
end
theorem abL (o : List zi) (r : zi) (i : Nat) : adh (o ++ [r]) i = if r.Pos + r.Old = i then o ++ [{ r with Old := r.Old + 1 }] else o ++ [r, ⟨i, 1, 0⟩] := by
 unfold adh
 rw [List.getLast?_append]
 simp
def Jp : List zi → Nat → Nat → List zi
 | o, _, 0 => o
 | o, i, n + 1 => Jp (adh o i) (i + 1) n
theorem abS (o : List zi) (r : zi) : ∀ (n i : Nat), r.Pos + r.Old = i → Jp (o ++ [r]) i n = o ++ [{ r with Old := r.Old + n }]
 | 0, i, h => by
  rw [Jp]
  cases r
  simp
 | n + 1, i, h => by
  rw [Jp, abL, if_pos h, abS o _ n (i + 1) (by simp only; omega)]
  simp only [List.append_cancel_left_eq, List.cons.injEq, zi.mk.injEq, and_true, true_and]
  omega
theorem arX (o : List zi) (i n : Nat) (hn : 0 < n) : Jp o i n = match o.getLast? with
  | some r => if r.Pos + r.Old = i then o.dropLast ++ [{ r with Old := r.Old + n }] else o ++ [⟨i, n, 0⟩]
  | none => [⟨i, n, 0⟩] := by
 obtain ⟨n, rfl⟩ : ∃ m, n = m + 1 := ⟨n - 1, by omega⟩
 rw [Jp]
 have key : ∀ o : List zi, Jp (o ++ [⟨i, 1, 0⟩]) (i + 1) n = o ++ [⟨i, (n + 1 : Nat), 0⟩] := by
  intro o
  rw [abS o _ n (i + 1) (by simp)]
  simp only [List.append_cancel_left_eq, List.cons.injEq, zi.mk.injEq, and_true, true_and]
  omega
 rcases kz o with rfl | ⟨o, r, rfl⟩
 ·have := key []
  simpa [adh] using this
 ·rw [abL, List.getLast?_append]
  simp only [List.getLast?_singleton, Option.some_or, List.dropLast_concat]
  by_cases h : r.Pos + r.Old = i
  ·rw [if_pos h, if_pos h, abS o _ n (i + 1) (by simp only; omega)]
   simp only [List.append_cancel_left_eq, List.cons.injEq, zi.mk.injEq, and_true, true_and]
   omega
  ·rw [if_neg h, if_neg h]
   have := key (o ++ [r])
   simpa using this
theorem agV (k : Int) (x : Str) (a b : Nat) (m : List Str) : ∀ (cs : List Int) (i : Nat) (o : List zi), KH k x a b i (cs.map fun c => Tk.sgn c m) o = if mkS k x m ≠ m then Jp o (i + min (a - i) cs.length) (min (b - i) cs.length - min (a - i) cs.length) else o
 | [], i, o => by simp [KH, Jp]
 | c :: cs, i, o => by
  rw [List.map_cons, KH, agV k x a b m cs (i + 1)]
  rw [alz]
  by_cases hm : mkS k x m ≠ m
  ·rw [if_pos hm, if_pos hm, List.length_cons]
   by_cases h1 : a ≤ i
   ·have e1 : a - i = 0 := by omega
    have e2 : a - (i + 1) = 0 := by omega
    rw [e1, e2, Nat.zero_min, Nat.zero_min]
    by_cases h2 : i < b
    ·rw [if_pos ⟨h1, h2, hm⟩]
     have e3 : min (b - i) (cs.length + 1) - 0 = min (b - (i + 1)) cs.length + 1 := by omega
     rw [e3, Jp]
     rfl
    ·rw [if_neg (fun h => h2 h.2.1)]
     have e3 : b - i = 0 := by omega
     have e4 : b - (i + 1) = 0 := by omega
     rw [e3, e4]
     simp [Jp]
   ·rw [if_neg (fun h => h1 h.1)]
    congr 1 <;> omega
  ·rw [if_neg hm, if_neg hm, if_neg (fun h => hm h.2.2)]
theorem aiE (k : Int) (x : Str) (a b : Nat) (m : List Str) : ∀ (cs : List Int) (i : Nat), kK k x a b i (cs.map fun c => Tk.sgn c m) = ((cs.take (min (a - i) cs.length)).map fun c => Tk.sgn c m) ++ ((((cs.take (max (min (b - i) cs.length) (min (a - i) cs.length))).drop (min (a - i) cs.length)).map fun c => Tk.sgn c (mkS k x m)) ++ ((cs.drop (max (min (b - i) cs.length) (min (a - i) cs.length))).map fun c => Tk.sgn c m))
 | [], i => by simp [kK]
 | c :: cs, i => by
  rw [List.map_cons, kK, aiE k x a b m cs (i + 1), aaf]
  simp only [List.length_cons]
  by_cases h1 : a ≤ i
  ·have e1 : a - i = 0 := by omega
   have e2 : a - (i + 1) = 0 := by omega
   rw [e1, e2, Nat.zero_min, Nat.zero_min]
   by_cases h2 : i < b
   ·rw [if_pos ⟨h1, h2⟩]
    have e3 : max (min (b - i) (cs.length + 1)) 0 = max (min (b - (i + 1)) cs.length) 0 + 1 := by omega
    rw [e3]
    simp
   ·rw [if_neg (fun h => h2 h.2)]
    have e3 : b - i = 0 := by omega
    have e4 : b - (i + 1) = 0 := by omega
    rw [e3, e4]
    simp
  ·rw [if_neg (fun h => h1 h.1)]
   have e1 : min (a - i) (cs.length + 1) = min (a - (i + 1)) cs.length + 1 := by omega
   have e2 : max (min (b - i) (cs.length + 1)) (min (a - (i + 1)) cs.length + 1) = max (min (b - (i + 1)) cs.length) (min (a - (i + 1)) cs.length) + 1 := by omega
   rw [e1, e2]
   simp
end Go.Proofs.YtclohbgnaopjfaaGreatDoor
namespace Go.Proofs.YtclohbgnaopjfaaGreatDoor
set_option linter.unusedSimpArgs false
set_option linter.unusedVariables false
open Go Classical
def RgOk (i : Nat) (o : List zi) : Prop := o.length ≤ i ∧ ∀ r ∈ o, 0 ≤ r.Pos ∧ 1 ≤ r.Old ∧ r.Pos + r.Old ≤ (i : Int)
theorem RgOk.mono {i j : Nat} {o : List zi} (h : RgOk i o) (hij : i ≤ j) : RgOk j o := ⟨by have := h.1; omega, fun r hr => by have := h.2 r hr; omega⟩
theorem as0 {i : Nat} {o : List zi} (h : RgOk i o) : RgOk (i + 1) (adh o i) := by
 rcases kz o with rfl | ⟨o, r, rfl⟩
 ·refine ⟨by simp [adh], fun r hr => ?_⟩
  simp only [adh, List.getLast?_nil, List.mem_singleton] at hr
  subst hr
  simp
 ·obtain ⟨h1, h2⟩ := h
  have hr := h2 r (by simp)
  rw [List.length_append, List.length_singleton] at h1
  rw [abL]
  split
  ·refine ⟨by rw [List.length_append, List.length_singleton]; omega, fun y hy => ?_⟩
   rcases List.mem_append.1 hy with hy | hy
   ·have := h2 y (by simp [hy]); omega
   ·rw [List.mem_singleton] at hy
    subst hy
    simp only
    omega
  ·refine ⟨by simp; omega, fun y hy => ?_⟩
   rcases List.mem_append.1 hy with hy | hy
   ·have := h2 y (by simp [hy]); omega
   ·rcases List.mem_cons.1 hy with rfl | hy
    ·omega
    ·rw [List.mem_singleton] at hy
     subst hy
     simp
theorem arp (k : Int) (x : Str) (a b : Nat) : ∀ (l : List Tk) (i : Nat) (o : List zi), RgOk i o → RgOk (i + l.length) (KH k x a b i l o)
 | [], i, o, h => h
 | t :: l, i, o, h => by
  rw [KH, List.length_cons]
  have h1 : RgOk (i + 1) (avn k x a b i o t) := by
   cases t with
   | sgn c m =>
    rw [alz]
    split
    ·exact as0 h
    ·exact h.mono (by omega)
   | opn k' a' => exact h.mono (by omega)
   | cls => exact h.mono (by omega)
  have := arp k x a b l (i + 1) _ h1
  exact this.mono (by omega)
theorem aue (K F T : Int) (N : List za) (nm v : Str) (l : List zi) (j i n : Nat) (hn : 0 < n) (hi : i + n ≤ 1000000) (hl : RgOk j l) (hj : j ≤ i) :
  vX (i : Int) ((i + n : Nat) : Int) K F T N nm v l = some (K, F, T, N, nm, v, Jp l i n) := by
 obtain ⟨h1, h2⟩ := hl
 have hw : w64 (((i + n : Nat) : Int) - (i : Int)) = (n : Int) := by rw [qx (by omega)]; omega
 unfold vX
 rw [arX l i n hn, hw]
 rcases kz l with rfl | ⟨o, r, rfl⟩
 ·have e : w64 ((([] : List zi).length : Int) - 1) = -1 := rfl
  rw [e, if_neg (by decide), wW (by simp)]
  rfl
 ·have e : w64 (((o ++ [r]).length : Int) - 1) = (o.length : Int) := by
   rw [List.length_append, List.length_singleton] at h1 ⊢
   rw [qx (by omega)]
   omega
  have hr := h2 r (by simp)
  rw [e, if_pos (by simp), aee o [] r]
  simp only [Option.bind_some]
  rw [qx (x := r.Pos + r.Old) (by omega), List.getLast?_append]
  simp only [List.getLast?_singleton, Option.some_or, List.dropLast_concat]
  by_cases hc : r.Pos + r.Old = (i : Int)
  ·rw [if_pos (by simp [hc]), if_pos hc, qx (by omega), aoS]
   rfl
  ·rw [if_neg (by simpa using hc), if_neg hc, wW (by simp at h1 ⊢; omega)]
   rfl
theorem ajN (n : za) (m : List Str) (cs : List Int) (a b : Nat) (h1 : a ≤ b) (h2 : b ≤ cs.length) : wQ (a : Int) (b : Int) m n cs = some ⟨n.Kind, zK ((cs.take b).drop a), m, [], []⟩ := by
 unfold wQ
 rw [JX h1 h2]
 rfl
theorem as7 (a i L : Nat) (ha : a ≤ 2000000) (hi : i ≤ 2000000) : (if (L : Int) < (if (0 : Int) > (w64 ((a : Int) - (i : Int))) then (0 : Int) else w64 ((a : Int) - (i : Int))) then (L : Int) else (if (0 : Int) > (w64 ((a : Int) - (i : Int))) then (0 : Int) else w64 ((a : Int) - (i : Int)))) = ((min (a - i) L : Nat) : Int) := by
 rw [qx (by omega)]
 split <;> split <;> omega
theorem to_eq (b i L f : Nat) (hb : b ≤ 2000000) (hi : i ≤ 2000000) (hf : f ≤ L) : (if (L : Int) < (if (f : Int) > (w64 ((b : Int) - (i : Int))) then (f : Int) else w64 ((b : Int) - (i : Int))) then (L : Int) else (if (f : Int) > (w64 ((b : Int) - (i : Int))) then (f : Int) else w64 ((b : Int) - (i : Int)))) = ((max (min (b - i) L) f : Nat) : Int) := by
 rw [qx (by omega)]
 split <;> split <;> omega
theorem aiS {k : Int} {x : Str} {m : List Str} (hm : mkS k x m = m) (a b : Nat) : ∀ (cs : List Int) (i : Nat), kK k x a b i (cs.map fun c => Tk.sgn c m) = cs.map fun c => Tk.sgn c m
 | [], i => rfl
 | c :: cs, i => by rw [List.map_cons, kK, aaf, aiS hm a b cs, hm]; simp
def Parts (l : List za) : Prop := ∀ p ∈ l, isT p = true ∧ (qh p = true ∨ (p.Text = [] ∧ p.zq = [] ∧ p.Kids = []))
theorem aj3 (m : List Str) {cs : List Int} (h : ∀ c ∈ cs, VR c) (hm : jD m = true) : tkN ⟨ve, zK cs, m, [], []⟩ = (cs.map fun c => Tk.sgn c m) ∧ (qh ⟨ve, zK cs, m, [], []⟩ = true ∨ zK cs = []) ∧ nwt ⟨ve, zK cs, m, [], []⟩ = 6 + (zK cs).length + qX m := by
 obtain ⟨h1, h2⟩ := J3 h
 refine ⟨?_, ?_, by rw [qQ]; simp [wo, zM]⟩
 ·rw [wZ]
  have : isT (⟨ve, zK cs, m, [], []⟩ : za) = true := by simp [isT]
  rw [this, if_pos rfl, h1]
 ·by_cases e : zK cs = []
  ·exact .inr e
  ·exact .inl (afL e h2 hm)
theorem auo {n : za} (hf : qh n = true) (ht : isT n = true) (k : Int) {x : Str} (hx : isName x = true) (a b i : Nat) (ha : a ≤ 2000000) (hb : b ≤ 2000000) (hi : i + wE n ≤ 1000000) (N : List za) (v : Str) (o : List zi) (ho : RgOk i o) (hw : nwt n ≤ 1000000000) :
  ∃ out, vU n (i : Int) k (a : Int) (b : Int) N x v o = some (out, k, (a : Int), (b : Int), N, x, v, KH k x a b i (tkN n) o) ∧ Parts out ∧ tkL out = kK k x a b i (tkN n) ∧ zM out ≤ 3 * nwt n + 1 + x.length ∧ out.length ≤ 3 := by
 obtain ⟨t1, t2, t3, t4, t5⟩ := yF hf ht
 have hk := JS ht
 have hcs := agP t2
 have hsz : wE n = (runes n.Text).length := by rw [vV, ht, yB]; rfl
 have hone : Parts [n] ∧ zM [n] ≤ 3 * nwt n + 1 + x.length := by
  refine ⟨fun p hp => ?_, by simp only [zM]; omega⟩
  rw [List.mem_singleton] at hp
  subst hp
  exact ⟨ht, .inl hf⟩
 have htl : tkL [n] = tkN n := by simp [tkL]
 have htk : tkN n = (runes n.Text).map fun c => Tk.sgn c n.Marks := by rw [wZ, if_pos ht]
 have hmw := arC k x n.Marks
 have hmr := at0 k t3 hx
 have hml : n.Marks.length ≤ 1099511627776 := by have := afS n.Marks; rw [qQ] at hw; omega
 have hwn : nwt n = 6 + n.Text.length + qX n.Marks := by rw [qQ, hk, t4, t5]; simp [wo, zM]
 have hval := WE t2
 unfold vU Qc
 rw [qf hml]
 simp only [Option.bind_some]
 rw [atS k t3 hx, as7 a i _ ha (by omega), to_eq b i _ _ hb (by omega) (by omega)]
 have e1 : (ZV k x n.Marks).1 = mkS k x n.Marks := rfl
 rw [e1, htk]
 generalize hcsd : runes n.Text = cs at *
 by_cases hm : mkS k x n.Marks = n.Marks
 ·refine ⟨[n], ?_, hone.1, by rw [aiS hm, htl, htk], hone.2, by simp⟩
  rw [if_pos (by simp [hm]), agV, if_neg (by simpa using hm)]
 ·rw [if_neg (by simp [hm]), agV, if_pos hm, aiE]
  have hfL : min (a - i) cs.length ≤ cs.length := by omega
  have htL : max (min (b - i) cs.length) (min (a - i) cs.length) ≤ cs.length := by omega
  have hft : min (a - i) cs.length ≤ max (min (b - i) cs.length) (min (a - i) cs.length) := by omega
  have hd : min (b - i) cs.length - min (a - i) cs.length = max (min (b - i) cs.length) (min (a - i) cs.length) - min (a - i) cs.length := by omega
  rw [hd]
  generalize min (a - i) cs.length = f at *
  generalize max (min (b - i) cs.length) f = t at *
  by_cases hft' : (f : Int) = (t : Int)
  ·obtain rfl : f = t := by omega
   rw [if_pos (by simp)]
   refine ⟨[n], ?_, hone.1, ?_, hone.2, by simp⟩
   ·rw [Nat.sub_self, Jp]
   ·rw [htl, htk, List.drop_take_self, List.map_nil, List.nil_append, ← List.map_append, List.take_append_drop]
  ·rw [if_neg (by simpa using hft'), qx (by omega), qx (by omega)]
   have n1 : ((i : Int) + (f : Int)) = ((i + f : Nat) : Int) := by omega
   have n2 : ((i : Int) + (t : Int)) = ((i + f + (t - f) : Nat) : Int) := by omega
   rw [n1, n2, aue _ _ _ _ _ _ o i (i + f) (t - f) (by omega) (by omega) ho (by omega)]
   simp only [Option.bind_some]
   have z0 : (0 : Int) = ((0 : Nat) : Int) := rfl
   rw [z0, ajN n _ cs 0 f (by omega) hfL, ajN n _ cs f t hft htL, ajN n _ cs t cs.length htL (Nat.le_refl _), hk]
   simp only [Option.bind_some, List.drop_zero, List.take_length]
   have v1 : ∀ c ∈ cs.take f, VR c := fun c hc => hcs c (List.mem_of_mem_take hc)
   have v2 : ∀ c ∈ (cs.take t).drop f, VR c := fun c hc => hcs c (List.mem_of_mem_take (List.mem_of_mem_drop hc))
   have v3 : ∀ c ∈ cs.drop t, VR c := fun c hc => hcs c (List.mem_of_mem_drop hc)
   obtain ⟨p1, q1, w1⟩ := aj3 n.Marks v1 t3
   obtain ⟨p2, q2, w2⟩ := aj3 (mkS k x n.Marks) v2 hmr
   obtain ⟨p3, q3, w3⟩ := aj3 n.Marks v3 t3
   refine ⟨_, rfl, ?_, ?_, ?_, by simp⟩
   ·intro p hp
    simp only [List.mem_cons, List.not_mem_nil, or_false] at hp
    rcases hp with rfl | rfl | rfl
    ·exact ⟨by simp [isT], q1.imp id fun h => ⟨h, rfl, rfl⟩⟩
    ·exact ⟨by simp [isT], q2.imp id fun h => ⟨h, rfl, rfl⟩⟩
    ·exact ⟨by simp [isT], q3.imp id fun h => ⟨h, rfl, rfl⟩⟩
   ·simp only [tkL, p1, p2, p3, List.append_nil]
   ·have hl : zK cs = zK (cs.take f) ++ (zK ((cs.take t).drop f) ++ zK (cs.drop t)) := by
     rw [← JZ, ← JZ]
     congr 1
     have h1 : cs.take f = (cs.take t).take f := by rw [List.take_take]; congr 1; omega
     rw [← List.append_assoc, h1, List.take_append_drop, List.take_append_drop]
    have hlen := congrArg List.length hl
    rw [hval] at hlen
    simp only [List.length_append] at hlen
    simp only [zM, w1, w2, w3]
    omega
theorem abV : ∀ (l o : List za), vS o → (∀ p ∈ l, qh p = true ∨ (isT p = true ∧ p.Text = [] ∧ p.zq = [] ∧ p.Kids = [])) → vS (l.foldl joinStep o) ∧ tkL (l.foldl joinStep o) = tkL o ++ tkL l
 | [], o, ho, _ => ⟨ho, by simp [tkL]⟩
 | p :: l, o, ho, h => by
  rw [List.foldl_cons]
  rcases h p (by simp) with hp | ⟨h1, h2, h3, h4⟩
  ·obtain ⟨g1, g2⟩ := abV l _ (aas o p ho hp) fun y hy => h y (by simp [hy])
   refine ⟨g1, ?_⟩
   have hi := (Ya o p ho.gd (afQ hp)).1
   have : tkL (joinStep o p) = tkL o ++ tkN p := by rw [← jh, hi, KF, jh, aoz]
   rw [g2, this, tkL, List.append_assoc]
  ·have e : joinStep o p = o := by unfold joinStep; rw [if_pos (by simp [h1, h2])]
   have e2 : tkN p = [] := by rw [wZ, if_pos h1, h2, QH]; rfl
   rw [e]
   obtain ⟨g1, g2⟩ := abV l o ho fun y hy => h y (by simp [hy])
   exact ⟨g1, by rw [g2, tkL, e2, List.nil_append]⟩
theorem ao1 (k : Int) {x : Str} (hx : isName x = true) (a b : Nat) (ha : a ≤ 2000000) (hb : b ≤ 2000000) (N : List za) (v : Str) (r : List za → Int → Int → Int → Int → List za → Str → Str → List zi → Option (List za × Int × Int × Int × List za × Str × Str × List zi)) :
  ∀ (l : List za) (j : Int) (i : Nat) (out : List za) (o : List zi), (∀ y ∈ l, qh y = true) →
   (∀ y ∈ l, isT y = false → ∀ (i : Nat) (o : List zi), RgOk i o → i + zD y.Kids ≤ 1000000 → ∃ out, r y.Kids (i : Int) k (a : Int) (b : Int) N x v o = some (out, k, (a : Int), (b : Int), N, x, v, KH k x a b i (tkL y.Kids) o) ∧ vS out ∧ tkL out = kK k x a b i (tkL y.Kids) ∧ zM out + 21 * zD y.Kids ≤ 24 * zM y.Kids) →
   RgOk i o → i + zD l ≤ 1000000 → zM l ≤ 10000000 → x.length ≤ 20 → (∀ p ∈ out, qh p = true ∨ (isT p = true ∧ p.Text = [] ∧ p.zq = [] ∧ p.Kids = [])) → (out.length + 3 * l.length) ≤ 1000000000 →
   ∃ out', qg r l j (i : Int) out k (a : Int) (b : Int) N x v o = some (out ++ out', k, (a : Int), (b : Int), N, x, v, KH k x a b i (tkL l) o) ∧ (∀ p ∈ out', qh p = true ∨ (isT p = true ∧ p.Text = [] ∧ p.zq = [] ∧ p.Kids = [])) ∧ tkL out' = kK k x a b i (tkL l) ∧ zM out' + 21 * zD l ≤ 24 * zM l
 | [], j, i, out, o, _, _, _, _, _, _, _, _ => ⟨[], by simp [qg, KH, tkL], by simp, by simp [tkL, kK], by simp [zM, zD]⟩
 | y :: l, j, i, out, o, hf, hr, ho, hs, hw, hxl, hp, hln => by
  have hy := hf y (by simp)
  have hsz := size_pos hy
  simp only [zD] at hs
  simp only [zM] at hw
  have hyw := adE y
  rw [qg, size_eq y (by omega)]
  simp only [Option.bind_some]
  rw [Wd, qx (x := (i : Int) + (wE y : Int)) (by omega)]
  have e1 : ((i : Int) + (wE y : Int)) = ((i + wE y : Nat) : Int) := by omega
  have hlen := afR y
  rw [e1]
  have go : ∀ (P : List za) (o' : List zi), (∀ p ∈ P, qh p = true ∨ (isT p = true ∧ p.Text = [] ∧ p.zq = [] ∧ p.Kids = [])) → o' = KH k x a b i (tkN y) o → tkL P = kK k x a b i (tkN y) → zM P + 21 * wE y ≤ 24 * nwt y → P.length ≤ 3 → ∃ out', qg r l (j + 1) ((i + wE y : Nat) : Int) (out ++ P) k (a : Int) (b : Int) N x v o' = some (out ++ out', k, (a : Int), (b : Int), N, x, v, KH k x a b i (tkL (y :: l)) o) ∧ (∀ p ∈ out', qh p = true ∨ (isT p = true ∧ p.Text = [] ∧ p.zq = [] ∧ p.Kids = [])) ∧ tkL out' = kK k x a b i (tkL (y :: l)) ∧ zM out' + 21 * zD (y :: l) ≤ 24 * zM (y :: l) := by
   intro P o' h1 h2 h3 h4 h5
   subst h2
   obtain ⟨Q, q1, q2, q3, q4⟩ := ao1 k hx a b ha hb N v r l (j + 1) (i + wE y) (out ++ P) (KH k x a b i (tkN y) o) (fun z hz => hf z (by simp [hz])) (fun z hz => hr z (by simp [hz])) (by have := arp k x a b (tkN y) i o ho; rw [hlen] at this; exact this) (by omega) (by omega) hxl (fun p hp' => by
    rcases List.mem_append.1 hp' with h | h
    ·exact hp p h
    ·exact h1 p h) (by simp only [List.length_append, List.length_cons] at hln ⊢; omega)
   refine ⟨P ++ Q, ?_, fun p hp' => ?_, ?_, ?_⟩
   ·rw [q1, tkL, ahC, hlen, List.append_assoc]
   ·rcases List.mem_append.1 hp' with h | h
    ·exact h1 p h
    ·exact q2 p h
   ·rw [acj, h3, q3, tkL, adZ, hlen]
   ·rw [kV]; simp only [zD, zM]; omega
  by_cases ht : isT y = true
  ·rw [if_pos ht]
   obtain ⟨P, g1, g2, g3, g4, g5⟩ := auo hy ht k hx a b i ha hb (by omega) N v o ho (by omega)
   rw [g1]
   simp only [Option.bind_some]
   rw [wW (by simp only [List.length_cons] at hln; omega)]
   simp only [Option.bind_some]
   have hyw6 : 6 + wE y ≤ nwt y := by
    have := qQ y
    have hk := JS ht
    have h2 := akC y.Text
    have h3 : wE y = aeh y.Text := by rw [vV, if_pos ht]
    rw [hk] at this
    simp only [ve, List.length_cons, List.length_nil] at this
    omega
   have hb2 : zM P + 21 * wE y ≤ 24 * nwt y := by omega
   exact go P _ (fun p hp' => (g2 p hp').2.imp id fun h => ⟨(g2 p hp').1, h⟩) rfl g3 hb2 g5
  ·have ht' : isT y = false := by simpa using ht
   rw [if_neg ht]
   have hsy := yl ht'
   obtain ⟨Q, g1, g2, g3, g4⟩ := hr y (by simp) ht' (i + 1) o (ho.mono (by omega)) (by omega)
   have e2 : w64 ((i : Int) + 1) = ((i + 1 : Nat) : Int) := by rw [qx (by omega)]; omega
   rw [e2, g1]
   simp only [Option.bind_some]
   rw [wW (by simp only [List.length_cons, List.length_nil] at hln ⊢; omega)]
   simp only [Option.bind_some]
   have hfy := aag hy ht' g2
   have hty : isT ({ y with Kids := Q } : za) = false := ht'
   have htk : tkN y = Tk.opn y.Kind y.zq :: (tkL y.Kids ++ [Tk.cls]) := by rw [wZ, if_neg (by simp [ht'])]
   refine go [{ y with Kids := Q }] _ (fun p hp' => ?_) ?_ ?_ ?_ (by simp)
   ·rw [List.mem_singleton] at hp'
    subst hp'
    exact .inl hfy
   ·rw [htk, KH, ahC]
    rfl
   ·simp only [tkL, List.append_nil]
    rw [wZ, if_neg (by simp [hty]), htk, kK, adZ, aks, g3]
    rfl
   ·have w1 := qQ y
    have w2 := qQ ({ y with Kids := Q } : za)
    simp only at w2
    simp only [zM]
    omega
theorem an9 (k : Int) {x : Str} (hx : isName x = true) (hxl : x.length ≤ 20) (a b : Nat) (ha : a ≤ 2000000) (hb : b ≤ 2000000) (N : List za) (v : Str) : ∀ (kr : Nat) (l : List za), vS l → kE l < kr → ∀ (i : Nat) (o : List zi), RgOk i o → i + zD l ≤ 1000000 → zM l ≤ 10000000 → ∃ out, qL kr l (i : Int) k (a : Int) (b : Int) N x v o = some (out, k, (a : Int), (b : Int), N, x, v, KH k x a b i (tkL l) o) ∧ vS out ∧ tkL out = kK k x a b i (tkL l) ∧ zM out + 21 * zD l ≤ 24 * zM l
 | 0, l, _, h, _, _, _, _, _ => by omega
 | kr + 1, l, hl, hd, i, o, ho, hs, hw => by
  have hlen := kv l
  obtain ⟨P, h1, h2, h3, h4⟩ := ao1 k hx a b ha hb N v (qL kr) l 0 i [] o hl.form (fun y hy ht i o ho hs => by
   have hm := yR hy
   have hw2 := Qe hy
   have hk := vN y
   rw [yG] at hm
   exact an9 k hx hxl a b ha hb N v kr y.Kids (jJ (hl.form y hy) ht) (by omega) i o ho hs (by omega)) ho hs hw hxl (by simp) (by simp; omega)
  rw [qL, qf (by omega), h1]
  simp only [Option.bind_some, List.nil_append]
  rw [adp P (by omega)]
  obtain ⟨g1, g2⟩ := abV P [] .nil h2
  have hj := YF P
  refine ⟨xG P, rfl, g1, ?_, by omega⟩
  show tkL (P.foldl joinStep []) = _
  rw [g2, h3]
  rfl
theorem apE {n : za} {T : List Tk} (h : TD n T) (k : Int) {x : Str} (hx : isName x = true) (hxl : x.length ≤ 20) (a b : Nat) (hab : a ≤ 2000000) (hb : b ≤ T.length) (hw : wD n T ≤ 5000000) :
  ∃ N, Zn n ⟨k, (a : Int), (b : Int), [], x, []⟩ = some (N, KH k x a b 0 T [], 0) ∧ TD N (kK k x a b 0 T) ∧ N.Kind = n.Kind ∧ N.zq = n.zq := by
 have hs := h.small
 have hl := h.len
 have hwt := h.wt
 have hwk := vN n
 obtain ⟨out, h1, h2, h3, h4⟩ : ∃ out, vT n.Kids 0 k (a : Int) (b : Int) [] x [] [] = some (out, k, (a : Int), (b : Int), [], x, [], KH k x a b 0 (tkL n.Kids) []) ∧ vS out ∧ tkL out = kK k x a b 0 (tkL n.Kids) ∧ zM out + 21 * zD n.Kids ≤ 24 * zM n.Kids := by
  obtain ⟨out, h1, h2⟩ := an9 k hx hxl a b hab (by omega) [] [] (kE n.Kids + 1) n.Kids h.row (by omega) 0 [] ⟨by simp, by simp⟩ (by omega) (by omega)
  refine ⟨out, ?_, h2⟩
  unfold vT
  refine Zj (kE n.Kids + 1) fun kr hk => ?_
  obtain ⟨out', g1, g2, g3, _⟩ := an9 k hx hxl a b hab (by omega) [] [] kr n.Kids h.row (by omega) 0 [] ⟨by simp, by simp⟩ (by omega) (by omega)
  have e : out' = out := aoK g2 h2.1 (by rw [g3, h2.2.1])
  subst e
  exact g1
 rw [h.tk] at h1 h3
 refine ⟨{ n with Kids := out }, ?_, TD.of (aag h.form h.nt h2) h.nt h3 (by rw [Xb]; exact h.deep) (by rw [aja]; exact hs), rfl, rfl⟩
 unfold Zn
 rw [Wn n.Kids (by omega)]
 simp only [Option.bind_some]
 rw [if_neg (by simp; omega), h1]
 rfl
end Go.Proofs.YtclohbgnaopjfaaGreatDoor
namespace Go.Proofs.YtclohbgnaopjfaaGreatDoor
set_option linter.unusedSimpArgs false
set_option linter.unusedVariables false
open Go
abbrev xN (l : List za) : za := ⟨[120], [], [], [], l⟩
theorem avE (l : List za) : nwt (xN l) = zM l + 3 := by
 rw [qQ]; simp [qX, wo]; omega
end Go.Proofs.YtclohbgnaopjfaaGreatDoor
namespace Go.Proofs.YtclohbgnaopjfaaGreatDoor
set_option linter.unusedSimpArgs false
set_option linter.unusedVariables false
open Go
def acC (f t : Int) : Bool := decide (0 ≤ f) && (decide (f ≤ t) && decide (t ≤ 1048576))
def srB (s : zG) : Bool :=
 if s.Kind = 114 then acC s.From s.To && (qh (xN s.wJ) && (s.Name == [] && s.Value == []))
 else if s.Kind = 97 then decide (-1 ≤ s.From) && (decide (s.From ≤ 1048576) && (decide (s.To = 0) && (isName s.Name && (isValue s.Value && s.wJ.isEmpty))))
 else if s.Kind = 109 ∨ s.Kind = 117 then acC s.From s.To && (isName s.Name && (s.wJ.isEmpty && s.Value == []))
 else false
theorem at5 (f t : Int) : ((if (decide (f ≥ (0 : Int))) = true then if (decide (f ≤ t)) = true then some (decide (t ≤ (1048576 : Int))) else some false else some false) : Option Bool) = some (acC f t) := by
 unfold acC
 by_cases a : f ≥ 0
 ·by_cases b : f ≤ t
  ·have : (0 : Int) ≤ f := a
   simp [b, this]
  ·have : (0 : Int) ≤ f := a
   simp [b, this]
 ·have : ¬ (0 : Int) ≤ f := a
  simp [this]
theorem aqg (n : za) : (checkN n != (2 : Int)) = qh n := by
 unfold checkN
 cases qh n with
 | false => rfl
 | true =>
  simp only [Bool.true_eq_false, if_false]
  split
  ·rfl
  ·split <;> rfl
theorem aek {α : Type} (l : List α) : ((l.length : Int) == (0 : Int)) = l.isEmpty := by
 cases l with
 | nil => rfl
 | cons x l =>
  simp only [List.length_cons, List.isEmpty_cons, beq_eq_false_iff_ne, ne_eq]
  omega
theorem aqu (a b : Str) : ((a ++ b) == ([] : Str)) = (a == [] && b == []) := by
 cases a <;> cases b <;> rfl
theorem V3 (s : zG) (hw : zM s.wJ ≤ 268435400) (h1 : s.Name.length ≤ 1048576) (h2 : s.Value.length ≤ 1048576) : xD s = some (srB s) := by
 obtain ⟨k, f, t, l, n, v⟩ := s
 simp only at hw h1 h2
 have hxw := avE l
 unfold xD srB
 simp only
 rw [at5]
 simp only [Option.bind_some]
 by_cases hk : k = 114
 ·subst hk
  rw [if_pos (by decide), Yj (xN l) (by omega), if_pos rfl]
  simp only [Option.bind_some]
  rw [aqg, qf (by omega), aqu]
  cases acC f t <;> cases qh (xN l) <;> rfl
 ·rw [if_neg (by simpa using hk), if_neg hk]
  by_cases hk2 : k = 97
  ·subst hk2
   rw [if_pos (by decide), if_pos rfl, aci n (by omega), amo v (by omega), aek]
   simp only [Option.bind_some]
   have e1 : decide (f ≥ -1) = decide (-1 ≤ f) := rfl
   have e2 : (t == 0) = decide (t = 0) := by by_cases h : t = 0 <;> simp [h]
   rw [e1, e2]
   cases decide (-1 ≤ f) <;> cases decide (f ≤ 1048576) <;> cases decide (t = 0) <;> cases isName n <;> cases isValue v <;> rfl
  ·rw [if_neg (by simpa using hk2), if_neg hk2]
   by_cases hk3 : k = 109
   ·subst hk3
    rw [if_pos (by decide), if_pos (show (109 : Int) = 109 ∨ (109 : Int) = 117 from .inl rfl), aci n (by omega), aek]
    simp only [Option.bind_some]
    cases acC f t <;> cases isName n <;> cases l.isEmpty <;> rfl
   ·rw [if_neg (by simpa using hk3)]
    by_cases hk4 : k = 117
    ·subst hk4
     rw [if_pos (by decide), if_pos (show (117 : Int) = 109 ∨ (117 : Int) = 117 from .inr rfl), aci n (by omega), aek]
     simp only [Option.bind_some]
     cases acC f t <;> cases isName n <;> cases l.isEmpty <;> rfl
    ·rw [if_neg (by simpa using hk4), if_neg (by omega)]
end Go.Proofs.YtclohbgnaopjfaaGreatDoor
namespace Go.Proofs.YtclohbgnaopjfaaGreatDoor
set_option linter.unusedSimpArgs false
set_option linter.unusedVariables false
open Go
theorem ai3 : ∀ (path : List Int) (v : Int) (n : za), isT n = false → (∃ q m a, path = up q ∧ At n q m a) ∨ qK path v n = some (.inl (afo, 9)) ∨ ∃ m, qK path v n = some (.inr m) ∧ isT m = true
 | [], v, n, hn => .inl ⟨[], n, 0, rfl, .nil n⟩
 | y :: suf, v, n, hn => by
  by_cases h1 : y < 0
  ·right; left
   rw [qK]; simp [h1]
  ·by_cases h2 : y ≥ (n.Kids.length : Int)
   ·right; left
    rw [qK]; simp [h2]
   ·obtain ⟨i, rfl⟩ := Int.eq_ofNat_of_zero_le (show 0 ≤ y by omega)
    have hl : i < n.Kids.length := by omega
    obtain ⟨k, hk⟩ : ∃ k, n.Kids[i]? = some k := ⟨_, List.getElem?_eq_getElem hl⟩
    have g1 : decide ((i : Int) < 0) = false := by simp
    have g2 : decide ((i : Int) ≥ (n.Kids.length : Int)) = false := by simp; omega
    have step : qK ((i : Int) :: suf) v n = qK suf (v + 1) k := by
     rw [qK]
     simp only [g1, g2, Wd, hn, Bool.false_eq_true, if_false, xC hk, Option.bind_some]
    rw [step]
    by_cases ht : isT k = true
    ·cases suf with
     | nil => exact .inr (.inr ⟨k, rfl, ht⟩)
     | cons z suf =>
      right; left
      rw [qK]
      simp only [Wd, ht, if_true]
      split
      ·rfl
      ·split <;> rfl
    ·rcases ai3 suf (v + 1) k (by simpa using ht) with ⟨q, m, a, rfl, h⟩ | h | h
     ·exact .inl ⟨i :: q, m, _, rfl, .cons n i k q m a hk hn (by simpa using ht) h⟩
     ·exact .inr (.inl h)
     ·exact .inr (.inr h)
theorem amM (n : za) (path : List Int) (hn : isT n = false) (hp : path.length ≤ 9223372036854775807) : (∃ q m a, path = up q ∧ At n q m a) ∨ kZ n path = some (afo, 9) := by
 rcases ai3 path 0 n hn with h | h | ⟨m, h, hm⟩
 ·exact .inl h
 ·right
  unfold kZ
  rw [qf hp, h]
  rfl
 ·right
  unfold kZ
  rw [qf hp, h]
  simp only [Option.bind_some, Wd, hm, if_true]
end Go.Proofs.YtclohbgnaopjfaaGreatDoor
namespace Go.Proofs.YtclohbgnaopjfaaGreatDoor
set_option linter.unusedSimpArgs false
set_option linter.unusedVariables false
open Go Classical
theorem au0 {n : za} {T : List Tk} (h : TD n T) (hw : wD n T ≤ 100000000) {p : Nat} {k : Str} {aa : List zf} (hp : T[p]? = some (.opn k aa)) :
  ∃ q i x, kg n (p : Int) = some (⟨up q, ((i : Nat) : Int), 0⟩, 0) ∧ At n (q ++ [i]) x (p + 1) ∧ isT x = false ∧ x.Kind = k ∧ x.zq = aa := by
 have hl := h.len
 have hwt := h.wt
 have hpl := (List.getElem?_eq_some_iff.1 hp).1
 obtain ⟨s, hs, hok⟩ := Zo h.nt (by omega) p (by omega)
 obtain ⟨q, m, a, idx, off, rfl, hat, hm, hidx, hpos, hk, hend⟩ := hok
 obtain ⟨P1, S1, e1, e2, e3⟩ := at_end hat
 rw [h.tk] at e2
 have fm := jJ (hat.form h.form) hm
 have hts := Zi (m.Kids.take idx)
 rcases Nat.lt_or_ge idx m.Kids.length with hi | hi
 ·obtain ⟨x, hx⟩ : ∃ x, m.Kids[idx]? = some x := ⟨_, List.getElem?_eq_getElem hi⟩
  obtain ⟨g1, g2⟩ := hk x hx
  have fx := fm.form x (List.mem_of_getElem? hx)
  have hsp := KY hx
  have hg : T[p]? = (tkN x)[off]? := by
   rw [e2, hsp, List.getElem?_append_right (by omega), List.append_assoc, List.getElem?_append_right (by omega), List.append_assoc, List.getElem?_append_left (by rw [afR]; omega)]
   congr 1
   omega
  rw [hp] at hg
  cases ht : isT x with
  | true =>
   exfalso
   rw [wZ, if_pos ht, List.getElem?_map] at hg
   cases hr : (runes x.Text)[off]? with
   | none => rw [hr] at hg; cases hg
   | some c => rw [hr] at hg; cases hg
  | false =>
   have h0 : off = 0 := by
    by_cases h0 : 0 < off
    ·rw [g2 h0] at ht; cases ht
    ·omega
   subst h0
   rw [wZ, if_neg (by simp [ht])] at hg
   simp only [List.getElem?_cons_zero, Option.some.injEq, Tk.opn.injEq] at hg
   refine ⟨q, idx, x, hs, ?_, ht, hg.1.symm, hg.2.symm⟩
   have := hat.snoc hx hm ht
   rwa [show a + zD (m.Kids.take idx) + 1 = p + 1 from by omega] at this
 ·exfalso
  have h0 := hend (by omega)
  have ha : m.Kids.take idx = m.Kids := List.take_of_length_le hi
  rw [ha] at hpos hts
  have hg : T[p]? = S1[0]? := by
   rw [e2, List.getElem?_append_right (by omega), List.getElem?_append_right (by omega)]
   congr 1
   omega
  rw [hp] at hg
  cases S1 with
  | nil => cases hg
  | cons t S1 =>
   simp only [List.getElem?_cons_zero, Option.some.injEq] at hg
   subst hg
   exact e3
theorem aiT (l : List Int) (h : l.length ≤ 10000000) : slices_Clone_int l = some l := by
 unfold slices_Clone_int
 rw [wW (by simp; omega)]
 rfl
theorem aqF (l : List zf) (h : l.length ≤ 1000000000) : vg l = some l := by
 unfold vg
 rw [wW (by simp; omega)]
 rfl
theorem ab1 {n : za} {T : List Tk} (h : TD n T) (hw : wD n T ≤ 100000000) {p : Nat} {k : Str} {aa : List zf} (hp : T[p]? = some (.opn k aa)) :
  ∃ q x, xu n (p : Int) = some (up q, true) ∧ At n q x (p + 1) ∧ isT x = false ∧ x.Kind = k ∧ x.zq = aa := by
 obtain ⟨q, i, x, h1, h2, h3, h4, h5⟩ := au0 h hw hp
 refine ⟨q ++ [i], x, ?_, h2, h3, h4, h5⟩
 have hq := h2.len
 rw [List.length_append, List.length_singleton] at hq
 have hsm := h.small
 have hpl := (List.getElem?_eq_some_iff.1 hp).1
 have hne : ((p : Int) == -1) = false := by simp
 have e : up q ++ [(i : Int)] = up (q ++ [i]) := by rw [anZ]; rfl
 unfold xu
 rw [hne, h1]
 simp only [Bool.false_eq_true, if_false, Option.bind_some, bne_self_eq_false, gt_iff_lt, Int.lt_irrefl, decide_false]
 rw [aiT _ (by rw [Jd]; omega)]
 simp only [Option.bind_some]
 rw [wW (by rw [Jd]; simp; omega)]
 simp only [Option.bind_some]
 rw [e, Wp h2 h3 (by simp; omega)]
 rfl
theorem anC {n : za} {T : List Tk} (h : TD n T) (hw : wD n T ≤ 100000000) {p : Int} (hp : 0 ≤ p) (hno : ∀ k aa, T[p.toNat]? ≠ some (.opn k aa)) : ∃ q, xu n p = some (q, false) := by
 obtain ⟨p, rfl⟩ := Int.eq_ofNat_of_zero_le hp
 rw [Int.toNat_natCast] at hno
 have hl := h.len
 have hwt := h.wt
 have hsm := h.small
 have hne : ((p : Int) == -1) = false := by simp
 unfold xu
 rw [hne]
 simp only [Bool.false_eq_true, if_false]
 by_cases hpl : p ≤ zD n.Kids
 ·obtain ⟨s, hs, hok⟩ := Zo h.nt (by omega) p hpl
  rw [hs]
  simp only [Option.bind_some, bne_self_eq_false, Bool.false_eq_true, if_false]
  by_cases ho : s.Offset > 0
  ·rw [if_pos (by simpa using ho)]
   exact ⟨_, rfl⟩
  ·rw [if_neg (by simpa using ho)]
   obtain ⟨q, m, a, idx, off, rfl, hat, hm, hidx, hpos, hk, hend⟩ := hok
   simp only at ho ⊢
   have h0 : off = 0 := by omega
   have hq := hat.len
   rw [aiT _ (by rw [Jd]; omega)]
   simp only [Option.bind_some]
   rw [wW (by rw [Jd]; simp; omega)]
   simp only [Option.bind_some]
   rcases amM n (up q ++ [(idx : Int)]) h.nt (by simp [Jd]; omega) with ⟨q', x, b, he, hx⟩ | he
   ·exfalso
    have e : up q ++ [(idx : Int)] = up (q ++ [idx]) := by rw [anZ]; rfl
    rw [e] at he
    rw [← aq1 he] at hx
    obtain ⟨m', b', k1, k2, k3, k4, k5⟩ := hx.au9
    obtain ⟨rfl, rfl⟩ := k1.fn hat
    obtain ⟨P1, S1, e1, e2, e3⟩ := at_end hat
    rw [h.tk] at e2
    have hts := Zi (m'.Kids.take idx)
    have hg : T[p]? = (tkN x)[0]? := by
     have hn : tkN x ≠ [] := by rw [wZ, if_neg (by simp [k4])]; simp
     have hpos' : 0 < (tkN x).length := List.length_pos_iff.2 hn
     rw [e2, KY k2, List.getElem?_append_right (by omega), List.append_assoc, List.getElem?_append_right (by omega), List.append_assoc, List.getElem?_append_left (by omega)]
     congr 1
     omega
    rw [wZ, if_neg (by simp [k4])] at hg
    exact hno _ _ hg
   ·rw [he]
    exact ⟨_, rfl⟩
 ·rw [al7 h.nt (by omega) p (by omega)]
  exact ⟨_, rfl⟩
theorem an0 (s : zG) : ∀ (l : List zf) (j : Int), (∃ i a, l[i]? = some a ∧ a.Name = s.Name ∧ zY s l j = some (.inl (j + (i : Nat), s))) ∨ ((∀ a ∈ l, a.Name ≠ s.Name) ∧ zY s l j = some (.inr ()))
 | [], j => .inr ⟨by simp, rfl⟩
 | a :: l, j => by
  rw [zY]
  have e : KJ a s = some (a.Name == s.Name) := rfl
  rw [e]
  simp only [Option.bind_some]
  by_cases h : a.Name = s.Name
  ·left
   refine ⟨0, a, rfl, h, ?_⟩
   rw [if_pos (by simp [h])]
   simp
  ·rw [if_neg (by simpa using h)]
   rcases an0 s l (j + 1) with ⟨i, b, h1, h2, h3⟩ | ⟨h1, h2⟩
   ·left
    refine ⟨i + 1, b, h1, h2, ?_⟩
    rw [h3]
    simp only [Option.some.injEq, Sum.inl.injEq, Prod.mk.injEq, and_true]
    omega
   ·right
    refine ⟨fun b hb => ?_, h2⟩
    rcases List.mem_cons.1 hb with rfl | hb
    ·exact h
    ·exact h1 b hb
theorem aqr {aa : List zf} (h : jD (aa.map (·.Name)) = true) {i j : Nat} {a b : zf} (hi : aa[i]? = some a) (hj : aa[j]? = some b) (e : a.Name = b.Name) : i = j := by
 have hp := ((Wy _).1 h).2
 have hi' : (aa.map (·.Name))[i]? = some a.Name := by rw [List.getElem?_map, hi]; rfl
 have hj' : (aa.map (·.Name))[j]? = some b.Name := by rw [List.getElem?_map, hj]; rfl
 obtain ⟨l1, e1⟩ := List.getElem?_eq_some_iff.1 hi'
 obtain ⟨l2, e2⟩ := List.getElem?_eq_some_iff.1 hj'
 rw [List.pairwise_iff_getElem] at hp
 rcases Nat.lt_trichotomy i j with h1 | h1 | h1
 ·have := hp i j l1 l2 h1
  rw [e1, e2, e, BL, xL] at this
  cases this
 ·exact h1
 ·have := hp j i l2 l1 h1
  rw [e1, e2, e, BL, xL] at this
  cases this
def VA (aa : List zf) (i : Nat) (v : Str) : List zf :=
 match aa[i]? with
 | some a => aa.set i { a with Value := v }
 | none => aa
theorem ap6 {aa : List zf} {i : Nat} {a : zf} (h : aa[i]? = some a) (v : Str) : VA aa i v = aa.set i { a with Value := v } := by
 unfold VA
 rw [h]
theorem age (aa : List zf) (i j : Nat) (v : Str) : (VA aa i v)[j]? = if j = i then (aa[i]?).map (fun a => { a with Value := v }) else aa[j]? := by
 unfold VA
 cases h : aa[i]? with
 | none =>
  by_cases e : j = i
  ·subst e; simp [h]
  ·simp [e]
 | some a =>
  have hl := (List.getElem?_eq_some_iff.1 h).1
  simp only
  rw [List.getElem?_set]
  by_cases e : j = i
  ·subst e; simp [hl]
  ·rw [if_neg (fun h => e h.symm), if_neg e]
theorem am4 (aa : List zf) (i : Nat) (v : Str) : (VA aa i v).map (·.Name) = aa.map (·.Name) := by
 refine List.ext_getElem? fun j => ?_
 rw [List.getElem?_map, List.getElem?_map, age]
 by_cases e : j = i
 ·subst e
  rw [if_pos rfl]
  cases aa[j]? <;> rfl
 ·rw [if_neg e]
theorem apx {aa : List zf} (h : aa.all (fun x => isValue x.Value) = true) (i : Nat) {v : Str} (hv : isValue v = true) : (VA aa i v).all (fun x => isValue x.Value) = true := by
 rw [List.all_eq_true] at h ⊢
 intro x hx
 obtain ⟨j, hj⟩ := List.mem_iff_getElem?.1 hx
 rw [age] at hj
 by_cases e : j = i
 ·rw [if_pos e] at hj
  cases ha : aa[i]? with
  | none => rw [ha] at hj; cases hj
  | some a => rw [ha] at hj; cases hj; exact hv
 ·rw [if_neg e] at hj
  exact h x (List.mem_of_getElem? hj)
theorem aeT : ∀ (aa : List zf) (i : Nat) (a : zf) (v : Str), aa[i]? = some a → wo (aa.set i { a with Value := v }) + a.Value.length = wo aa + v.length
 | [], i, a, v, h => by simp at h
 | b :: aa, 0, a, v, h => by
  simp only [List.getElem?_cons_zero, Option.some.injEq] at h
  subst h
  simp only [List.set_cons_zero, wo]; omega
 | b :: aa, i + 1, a, v, h => by
  have := aeT aa i a v (by simpa using h)
  simp only [List.set_cons_succ, wo]; omega
theorem adI {v : Str} (h : isValue v = true) : v.length ≤ 40 := by
 unfold isValue at h
 simp only [Bool.and_eq_true, decide_eq_true_eq] at h
 exact h.1
theorem ajF {n : za} (h : qh n = true) (ht : isT n = false) : n.zq.all (fun x => isValue x.Value) = true ∧ isName n.Kind = true ∧ n.Text = [] ∧ n.Marks = [] ∧ jD (n.zq.map (·.Name)) = true ∧ xx none n.Kids = true := by
 rw [vW, if_neg (by simp [ht])] at h
 simp only [Bool.and_eq_true, decide_eq_true_eq] at h
 exact ⟨h.1.1.1.1.1, h.1.1.1.1.2, h.1.1.1.2, h.1.1.2, h.1.2, h.2⟩
theorem ai0 {n : za} (ht : isT n = false) (h : n.zq.all (fun x => isValue x.Value) = true ∧ isName n.Kind = true ∧ n.Text = [] ∧ n.Marks = [] ∧ jD (n.zq.map (·.Name)) = true ∧ xx none n.Kids = true) : qh n = true := by
 rw [vW, if_neg (by simp [ht])]
 obtain ⟨h1, h2, h3, h4, h5, h6⟩ := h
 simp [h1, h2, h3, h4, h5, h6]
theorem ard {n : za} {q m a} (h : At n q m a) : q ≠ [] → ∃ P S, P.length + 1 = a ∧ tkL n.Kids = P ++ (Tk.opn m.Kind m.zq :: S) ∧ ∀ x : za, isT x = false → x.Kind = m.Kind → x.Kids = m.Kids → tkL (ZL q n x).Kids = P ++ (Tk.opn x.Kind x.zq :: S) ∧ (ZL q n x).Kind = n.Kind ∧ (ZL q n x).zq = n.zq := by
 induction h with
 | nil n => intro h; exact absurd rfl h
 | cons n i k q m a hi hn hk h ih =>
  intro _
  have hl := (List.getElem?_eq_some_iff.1 hi).1
  by_cases hq : q = []
  ·subst hq
   cases h with
   | nil =>
    refine ⟨tkL (n.Kids.take i), tkL k.Kids ++ (Tk.cls :: tkL (n.Kids.drop (i + 1))), by rw [Zi], ?_, fun x hx h1 h2 => ⟨?_, ?_⟩⟩
    ·rw [KY hi, wZ, if_neg (by simp [hk])]
     simp only [List.append_assoc, List.cons_append, List.nil_append]
    ·rw [jG hi]
     simp only [ZL]
     rw [List.set_eq_take_append_cons_drop, if_pos hl, acj, tkL, wZ, if_neg (by simp [hx]), h2]
     simp only [List.append_assoc, List.cons_append, List.nil_append]
    ·rw [jG hi]; exact ⟨rfl, rfl⟩
  ·obtain ⟨P, S, h1, h2, h3⟩ := ih hq
   refine ⟨tkL (n.Kids.take i) ++ (Tk.opn k.Kind k.zq :: P), S ++ (Tk.cls :: tkL (n.Kids.drop (i + 1))), ?_, ?_, fun x hx e1 e2 => ⟨?_, ?_⟩⟩
   ·simp only [List.length_append, List.length_cons, Zi]; omega
   ·rw [KY hi, wZ, if_neg (by simp [hk]), h2]
    simp only [List.append_assoc, List.cons_append, List.nil_append]
   ·obtain ⟨g1, g2, g3⟩ := h3 x hx e1 e2
    have hnt := JA q k x hk hx
    rw [jG hi]
    simp only
    rw [List.set_eq_take_append_cons_drop, if_pos hl, acj, tkL, wZ, if_neg (by simp [hnt]), g1, g2, g3]
    simp only [List.append_assoc, List.cons_append, List.nil_append]
   ·rw [jG hi]; exact ⟨rfl, rfl⟩
theorem set_mid {α : Type} (P : List α) (x y : α) (S : List α) : (P ++ x :: S).set P.length y = P ++ y :: S := by
 rw [List.set_append_right _ _ (Nat.le_refl _)]
 simp
theorem afW (k : Str) (a b : List zf) : ∀ (P S : List Tk) (d : Nat), dpT d (P ++ Tk.opn k a :: S) = dpT d (P ++ Tk.opn k b :: S)
 | [], S, d => by simp [dpT]
 | .sgn c m :: P, S, d => by rw [List.cons_append, List.cons_append, dpT, dpT, afW k a b P S]
 | .opn c m :: P, S, d => by rw [List.cons_append, List.cons_append, dpT, dpT, afW k a b P S]
 | .cls :: P, S, d => by rw [List.cons_append, List.cons_append, dpT, dpT, afW k a b P S]
theorem auQ (k : Str) (a b : List zf) (P S : List Tk) : tw (P ++ Tk.opn k b :: S) + wo a = tw (P ++ Tk.opn k a :: S) + wo b := by
 rw [J5, J5, tw, tw, amI, amI]; omega
theorem atK {n : za} {T : List Tk} (h : TD n T) (hw : wD n T ≤ 100000000) {p : Nat} {k : Str} {aa : List zf} (hp : T[p]? = some (.opn k aa)) {i : Nat} {a : zf} (hi : aa[i]? = some a) {v : Str} (hv : isValue v = true) (t : Int) (l : List za) (K : Int) :
  ∃ N, xe n ⟨K, (p : Int), t, l, a.Name, v⟩ = some (N, a.Value, 0) ∧ TD N (T.set p (.opn k (VA aa i v))) ∧ N.Kind = n.Kind ∧ N.zq = n.zq ∧ wD N (T.set p (.opn k (VA aa i v))) + a.Value.length = wD n T + v.length := by
 obtain ⟨q, x, h1, h2, h3, rfl, rfl⟩ := ab1 h hw hp
 have hwt := h.wt
 have hx := h2.form h.form
 have hvl := adI hv
 have hql : q.length ≤ p + 1 := h2.len
 have hsm := h.small
 have hpl := (List.getElem?_eq_some_iff.1 hp).1
 obtain ⟨f1, f2, f3, f4, f5, f6⟩ := ajF hx h3
 have hal : x.zq.length ≤ 10000000000 := by have := h2.wt; have := qQ x; have := acF x.zq; omega
 have hil := (List.getElem?_eq_some_iff.1 hi).1
 have hq0 : q ≠ [] := by
  rintro rfl
  cases h2
 have hxw : nwt x ≤ 2 + wD n T := by have := h2.wt; omega
 have haw : wo x.zq ≤ 2 + wD n T := by have := qQ x; omega
 have hset := ap6 hi v
 obtain ⟨P, S, e1, e2, e3⟩ := ard h2 hq0
 have hx' : isT ({ x with zq := VA x.zq i v } : za) = false := h3
 have fx' : qh ({ x with zq := VA x.zq i v } : za) = true := ai0 hx' ⟨apx f1 i hv, f2, f3, f4, by rw [am4]; exact f5, f6⟩
 obtain ⟨g1, g2, g3⟩ := e3 _ hx' rfl rfl
 rw [h.tk] at e2
 have hPl : P.length = p := by omega
 have hTs : T.set p (.opn x.Kind (VA x.zq i v)) = P ++ Tk.opn x.Kind (VA x.zq i v) :: S := by rw [e2, ← hPl, set_mid]
 refine ⟨ZL q n { x with zq := VA x.zq i v }, ?_, ?_, g2, g3, ?_⟩
 ·have hidx : qA x.zq ⟨K, (p : Int), t, l, a.Name, v⟩ = some ((i : Int), ⟨K, (p : Int), t, l, a.Name, v⟩) := by
   unfold qA
   rw [qf (by omega)]
   rcases an0 ⟨K, (p : Int), t, l, a.Name, v⟩ x.zq 0 with ⟨j, b, k1, k2, k3⟩ | ⟨k1, _⟩
   ·rw [k3]
    have : j = i := aqr f5 k1 hi k2
    subst this
    simp
   ·exact absurd rfl (k1 a (List.mem_of_getElem? hi))
  unfold xe
  simp only
  rw [h1]
  simp only [Option.bind_some, Bool.not_true, Bool.false_eq_true, if_false]
  rw [Wp h2 h3 (by omega)]
  simp only [Option.bind_some]
  rw [hidx]
  simp only [Option.bind_some]
  rw [if_neg (by simp), xC hi, aqF _ (by have := acF x.zq; omega)]
  simp only [Option.bind_some]
  rw [xC hi]
  simp only [Option.bind_some]
  rw [anR hil, ← hset]
  simp only [Option.bind_some]
  rw [aoh h2 h.nt (by omega)]
  rfl
 ·rw [hTs]
  refine TD.of (akZ hx' fx' h2 h.form) (JA q n _ h.nt hx') g1 ?_ ?_
  ·rw [afW x.Kind _ x.zq, ← e2]
   exact h.deep
  ·rw [e2] at hsm
   simpa using hsm
 ·have := auQ x.Kind x.zq (VA x.zq i v) P S
  have h5 := aeT _ _ _ v hi
  rw [← hset] at h5
  rw [hTs]
  unfold wD
  rw [g2, g3]
  rw [← e2] at this
  omega
theorem auP {n : za} {T : List Tk} (h : TD n T) (hw : wD n T ≤ 100000000) (s : zG) (hs : 0 ≤ s.From) (hno : ∀ k aa, T[s.From.toNat]? = some (.opn k aa) → ∀ a ∈ aa, a.Name ≠ s.Name) : ∃ e, e ≠ 0 ∧ xe n s = some (afo, [], e) := by
 by_cases ho : ∃ k aa, T[s.From.toNat]? = some (.opn k aa)
 ·obtain ⟨k, aa, ho⟩ := ho
  have e : s.From = ((s.From.toNat : Nat) : Int) := by omega
  obtain ⟨q, x, h1, h2, h3, rfl, rfl⟩ := ab1 h hw ho
  have hno := hno _ _ ho
  have hwt := h.wt
  have hql : q.length ≤ s.From.toNat + 1 := h2.len
  have hsm := h.small
  have hpl := (List.getElem?_eq_some_iff.1 ho).1
  have hal : x.zq.length ≤ 10000000000 := by have := h2.wt; have := qQ x; have := acF x.zq; omega
  refine ⟨9, by decide, ?_⟩
  unfold xe
  rw [e, h1]
  simp only [Option.bind_some, Bool.not_true, Bool.false_eq_true, if_false]
  rw [Wp h2 h3 (by omega)]
  simp only [Option.bind_some]
  unfold qA
  rw [qf (by omega)]
  rcases an0 s x.zq 0 with ⟨j, b, k1, k2, k3⟩ | ⟨_, k1⟩
  ·exact absurd k2 (hno b (List.mem_of_getElem? k1))
  ·rw [k1]
   rfl
 ·obtain ⟨q, hq⟩ := anC h hw hs fun k aa hh => ho ⟨k, aa, hh⟩
  refine ⟨3, by decide, ?_⟩
  unfold xe
  rw [hq]
  rfl
theorem arb {n : za} {T : List Tk} (h : TD n T) (s : zG) (hs : s.From = -1) (ha : n.zq = []) : xe n s = some (afo, [], 9) := by
 unfold xe xu
 rw [hs]
 simp only [beq_self_eq_true, if_true, Option.bind_some, Bool.not_true, Bool.false_eq_true, if_false]
 have := Wp (At.nil n) h.nt (by simp)
 rw [aqX] at this
 rw [this]
 simp only [Option.bind_some]
 rw [ha]
 unfold qA
 rw [qf (by simp)]
 rfl
theorem auk {n : za} (h : isT n = false) : (n.Kind == ([116, 101, 120, 116] : Str)) = false := h
theorem QW {n : za} {T : List Tk} (h : TD n T) (hw : wD n T ≤ 100000000) (s : zG) (hs : xD s = some true) : wP n s = if (s.Kind == (114 : Int)) = true then (yn n s.From s.To s.wJ).bind fun (r_5, r_6) => some (r_5, r_6) else if (s.Kind == (97 : Int)) = true then (xe n s).bind fun (r_7, r_8, r_9) => some (r_7, r_9) else (Zn n s).bind fun (Jm, afn, akE) => some (Jm, akE) := by
 have hwt := h.wt
 unfold wP
 rw [hs]
 simp only [Option.bind_some, Bool.not_true, Bool.false_eq_true, if_false]
 rw [auk h.nt]
 simp only [Bool.false_eq_true, if_false]
 rw [right_eq n (by omega), h.ok]
 simp only [Option.bind_some, beq_self_eq_true, Bool.not_true, Bool.false_eq_true, if_false]
theorem aji {l : List za} (hl : vS l) (hw : zM l ≤ 268435400) {f t : Nat} (hft : f ≤ t) (ht : t ≤ 1048576) : xD ⟨114, (f : Int), (t : Int), l, [], []⟩ = some true := by
 rw [V3 _ hw (by simp) (by simp)]
 have hf : qh (xN l) = true := by
  have hT : isT (xN l) = false := rfl
  exact ai0 hT ⟨rfl, show isName [120] = true by decide +kernel, rfl, rfl, rfl, anQ hl⟩
 unfold srB acC
 simp only [if_true]
 rw [hf]
 simp
 omega
theorem abJ {nm v : Str} (hn : isName nm = true) (hv : isValue v = true) {p : Int} (h1 : -1 ≤ p) (h2 : p ≤ 1048576) (hl : nm.length ≤ 1048576) : xD ⟨97, p, 0, [], nm, v⟩ = some true := by
 have := adI hv
 rw [V3 _ (by simp [zM]) hl (by simp only; omega)]
 unfold srB
 simp only
 rw [if_neg (by decide)]
 simp [hn, hv]
 omega
theorem am8 {k : Int} (hk : k = 109 ∨ k = 117) {x : Str} (hx : isName x = true) (hl : x.length ≤ 20) {f t : Nat} (hft : f ≤ t) (ht : t ≤ 1048576) : xD ⟨k, (f : Int), (t : Int), [], x, []⟩ = some true := by
 rw [V3 _ (by simp [zM]) (by simp only; omega) (by simp)]
 unfold srB acC
 simp only
 rw [if_neg (by omega), if_neg (by omega), if_pos hk, hx]
 simp
 omega
theorem abZ {n : za} {T : List Tk} (h : TD n T) (hw : wD n T ≤ 5000000) {k : Int} (hk : k = 109 ∨ k = 117) {x : Str} (hx : isName x = true) (hxl : x.length ≤ 20) {a b : Nat} (hab : a ≤ b) (hb : b ≤ T.length) :
  ∃ N, wP n ⟨k, (a : Int), (b : Int), [], x, []⟩ = some (N, 0) ∧ Zn n ⟨k, (a : Int), (b : Int), [], x, []⟩ = some (N, KH k x a b 0 T [], 0) ∧ TD N (kK k x a b 0 T) ∧ N.Kind = n.Kind ∧ N.zq = n.zq := by
 have hsm := h.small
 obtain ⟨N, h1, h2, h3, h4⟩ := apE h k hx hxl a b (by omega) hb hw
 refine ⟨N, ?_, h1, h2, h3, h4⟩
 rw [QW h (by omega) _ (am8 hk hx hxl hab (by omega))]
 simp only
 rw [if_neg (by simp; omega), if_neg (by simp; omega), h1]
 rfl
theorem anT {n : za} {T : List Tk} (h : TD n T) (hw : wD n T ≤ 100000000) {p : Nat} {k : Str} {aa : List zf} (hp : T[p]? = some (.opn k aa)) {i : Nat} {a : zf} (hi : aa[i]? = some a) {v : Str} (hv : isValue v = true) :
  ∃ N, wP n ⟨97, (p : Int), 0, [], a.Name, v⟩ = some (N, 0) ∧ xe n ⟨97, (p : Int), 0, [], a.Name, v⟩ = some (N, a.Value, 0) ∧ TD N (T.set p (.opn k (VA aa i v))) ∧ N.Kind = n.Kind ∧ N.zq = n.zq ∧ wD N (T.set p (.opn k (VA aa i v))) + a.Value.length = wD n T + v.length := by
 obtain ⟨N, h1, h2, h3, h4, h5⟩ := atK h hw hp hi hv 0 [] 97
 refine ⟨N, ?_, h1, h2, h3, h4, h5⟩
 have hsm := h.small
 have hpl := (List.getElem?_eq_some_iff.1 hp).1
 obtain ⟨q, x, _, hx, ht, hk', rfl⟩ := ab1 h hw hp
 obtain ⟨f1, f2, f3, f4, f5, f6⟩ := ajF (hx.form h.form) ht
 have hnm : isName a.Name = true := ((Wy _).1 f5).1 a.Name (by
  have := List.mem_of_getElem? hi
  exact List.mem_map.2 ⟨a, this, rfl⟩)
 have hxw : nwt x ≤ 2 + wD n T := by have := hx.wt; have := h.wt; omega
 have hal : a.Name.length ≤ 20 := YD hnm
 rw [QW h hw _ (abJ hnm hv (by omega) (by omega) (by omega))]
 simp only
 rw [if_neg (by decide), if_pos (by decide), h1]
 rfl
end Go.Proofs.YtclohbgnaopjfaaGreatDoor
namespace Go.Proofs.YtclohbgnaopjfaaGreatDoor
set_option linter.unusedSimpArgs false
set_option linter.unusedVariables false
open Go
end Go.Proofs.YtclohbgnaopjfaaGreatDoor
namespace Go.Proofs.YtclohbgnaopjfaaGreatDoor
set_option linter.unusedSimpArgs false
set_option linter.unusedVariables false
open Go
end Go.Proofs.YtclohbgnaopjfaaGreatDoor
namespace Go.Proofs.YtclohbgnaopjfaaGreatDoor
set_option linter.unusedSimpArgs false
set_option linter.unusedVariables false
open Go Classical
inductive Does : za → List zG → za → Prop
 | nil (n : za) : Does n [] n
 | cons (n a b : za) (s : zG) (l : List zG) (h1 : wP n s = some (a, 0)) (h2 : Does a l b) : Does n (s :: l) b
theorem Does.app {n a b : za} {l r : List zG} (h : Does n l a) (h2 : Does a r b) : Does n (l ++ r) b := by
 induction h with
 | nil n => exact h2
 | cons n a' b' s l h1 _ ih => exact .cons _ _ _ _ _ h1 (ih h2)
theorem au3 (W : Nat) : ∀ l : List za, (∀ n ∈ l, tw (tkN n) ≤ nwt n * (W + 10)) → tw (tkL l) ≤ zM l * (W + 10) := akQ W
theorem auY (W : Nat) (n : za) : (∀ c m, Tk.sgn c m ∈ tkN n → qX m ≤ W) → tw (tkN n) ≤ nwt n * (W + 10) := by
 induction n using za.ind with
 | h n ih =>
  intro hm
  have e := qQ n
  rw [wZ] at hm ⊢
  cases ht : isT n with
  | true =>
   simp only [ht, if_true] at hm ⊢
   rw [akR]
   have hr := akC n.Text
   rw [← yB] at hr
   by_cases h0 : runes n.Text = []
   ·rw [h0]; simp
   ·obtain ⟨c, l, hcl⟩ := List.exists_cons_of_ne_nil h0
    have hmm := hm c n.Marks (by rw [hcl]; simp)
    exact Nat.mul_le_mul (by omega) (by omega)
  | false =>
   simp only [ht, Bool.false_eq_true, if_false] at hm ⊢
   have h1 := akQ W n.Kids fun x hx => ih x hx fun c m hc => hm c m (by
    have : Tk.sgn c m ∈ tkL n.Kids := by
     obtain ⟨i, hi⟩ := List.mem_iff_getElem?.1 hx
     rw [KY hi]
     simp [hc]
    simp [this])
   simp only [tw, amI, J5]
   have h2 : (2 + n.Kind.length + wo n.zq) ≤ (2 + n.Kind.length + wo n.zq) * (W + 10) := Nat.le_mul_of_pos_right _ (by omega)
   have h3 : (2 + n.Kind.length + wo n.zq + zM n.Kids) * (W + 10) ≤ nwt n * (W + 10) := Nat.mul_le_mul_right _ (by omega)
   rw [Nat.add_mul] at h3
   omega
end Go.Proofs.YtclohbgnaopjfaaGreatDoor
namespace Go.Proofs.YtclohbgnaopjfaaGreatDoor
set_option linter.unusedSimpArgs false
set_option linter.unusedVariables false
open Go Classical
theorem aet {n : za} {T P S : List Tk} {Y : List It} (h : TD n T) (hw : wD n T ≤ 100000000) (hT : T = P ++ (tkI Y ++ S)) (fy : FI Y) {l : List za} (hl : vS l) (hlw : zM l ≤ 268435400) :
  ∃ N, qh N = true ∧ isT N = false ∧ N.Kind = n.Kind ∧ N.zq = n.zq ∧ tkL N.Kids = P ++ (tkL l ++ S) ∧ wP n ⟨114, (P.length : Int), ((P.length + szI Y : Nat) : Int), l, [], []⟩ = some (if checkN N = 0 then (N, 0) else (afo, checkN N)) := by
 obtain ⟨N, h1, h2, h3, h4, h5, h6⟩ := atr h hw hT fy hl.form (by omega)
 have hsm := h.small
 have hln : P.length + szI Y ≤ T.length := by rw [hT]; simp only [List.length_append, Xf]; omega
 refine ⟨N, h1, h2, h3, h4, h5, ?_⟩
 rw [QW h hw _ (aji hl hlw (by omega) (by omega))]
 simp only
 rw [if_pos (by decide), h6]
 by_cases hc : checkN N = 0
 ·rw [if_pos hc]; rfl
 ·rw [if_neg hc]; rfl
theorem YH {n : za} {T : List Tk} (h : TD n T) (hw : wD n T ≤ 100000000) {f t : Nat} (hft : f ≤ t) (ht : t ≤ T.length) {l : List za} (hl : vS l) (hlw : zM l ≤ 268435400) :
  (∃ P Y S, T = P ++ (tkI Y ++ S) ∧ FI Y ∧ P.length = f ∧ P.length + szI Y = t) ∨ wP n ⟨114, (f : Int), (t : Int), l, [], []⟩ = some (afo, 10) := by
 have hn := h.rn hw
 have hlen := h.len
 have hwt := h.wt
 have hsm := h.small
 obtain ⟨s1, e1, o1⟩ := Zo h.nt (by omega) f (by omega)
 obtain ⟨s2, e2, o2⟩ := Zo h.nt (by omega) t (by omega)
 by_cases hp : s1.Path = s2.Path
 ·left
  obtain ⟨q, m, a, X, Y, Z, hF, _⟩ := apb hn hft o1 o2 hp
  obtain ⟨P1, S1, g1, g2, _⟩ := at_end hF.at_
  rw [h.tk, ← jh m.Kids, hF.it, KF, KF] at g2
  have x1 := Xf X
  have x2 := hF.sx
  have x3 := hF.sy
  have fm := jJ (hF.at_.form hn.form) hF.nt
  have fi := WC fm.form
  rw [hF.it] at fi
  refine ⟨P1 ++ tkI X, Y, tkI Z ++ S1, by rw [g2]; simp only [List.append_assoc], fun x hx => fi x (by simp [hx]), by simp only [List.length_append]; omega, by simp only [List.length_append]; omega⟩
 ·right
  have hwh := alo hn hft o1 e1 e2 hp
  rw [QW h hw _ (aji hl hlw hft (by omega))]
  simp only
  rw [if_pos (by decide)]
  have hput : yn n (f : Int) (t : Int) l = some (afo, 10) := by
   have g2 := aqW (ad9 hl.form).1
   have hjw := YF l
   have hxw : nwt (⟨[120], [], [], [], xG l⟩ : za) ≤ 1099511627776 := by
    rw [qQ]; simp only [qX, wo, List.length_cons, List.length_nil]; omega
   unfold yn
   rw [hwh]
   simp only [Option.bind_some]
   have z2 : ((10 : Int) == 2) = false := rfl
   have z3 : ((10 : Int) != 0) = true := rfl
   simp only [z2, Bool.false_eq_true, if_false]
   rw [adp l (by omega)]
   simp only [Option.bind_some]
   rw [Yj _ hxw]
   have g2' : (checkN (⟨[120], [], [], [], xG l⟩ : za) == 2) = false := by simpa using g2
   simp only [Option.bind_some, g2', Bool.false_eq_true, if_false, z3, if_true]
  rw [hput]
  rfl
end Go.Proofs.YtclohbgnaopjfaaGreatDoor
namespace Go.Proofs.YtclohbgnaopjfaaGreatDoor
set_option linter.unusedSimpArgs false
set_option linter.unusedVariables false
open Go Classical
def anO (T : List Tk) (p : Nat) (nm : Str) (k : Str) (aa : List zf) (i : Nat) (a : zf) : Prop := T[p]? = some (.opn k aa) ∧ aa[i]? = some a ∧ a.Name = nm
theorem ana {n : za} {T : List Tk} (h : TD n T) (hw : wD n T ≤ 100000000) (p : Nat) (hp : p ≤ 1048576) {nm v : Str} (hn : isName nm = true) (hv : isValue v = true) :
  (∃ k aa i a, anO T p nm k aa i a) ∨ ∃ e, e ≠ 0 ∧ wP n ⟨97, (p : Int), 0, [], nm, v⟩ = some (afo, e) := by
 by_cases ho : ∃ k aa i a, anO T p nm k aa i a
 ·exact .inl ho
 ·right
  obtain ⟨e, he, hs⟩ := auP h hw ⟨97, (p : Int), 0, [], nm, v⟩ (by simp) fun k aa hk a ha hnm => by
   obtain ⟨i, hi⟩ := List.mem_iff_getElem?.1 ha
   exact ho ⟨k, aa, i, a, by simpa using hk, hi, hnm⟩
  refine ⟨e, he, ?_⟩
  rw [QW h hw _ (abJ hn hv (by omega) (by omega) (by have := YD hn; omega))]
  simp only
  rw [if_neg (by decide), if_pos (by decide), hs]
  rfl
theorem atL {n : za} {T : List Tk} (h : TD n T) (hw : wD n T ≤ 100000000) {p : Nat} {nm : Str} {k : Str} {aa : List zf} {i : Nat} {a : zf} (ha : anO T p nm k aa i a) {v : Str} (hv : isValue v = true) :
  ∃ N, wP n ⟨97, (p : Int), 0, [], nm, v⟩ = some (N, 0) ∧ xe n ⟨97, (p : Int), 0, [], nm, v⟩ = some (N, a.Value, 0) ∧ TD N (T.set p (.opn k (VA aa i v))) ∧ N.Kind = n.Kind ∧ N.zq = n.zq ∧ wD N (T.set p (.opn k (VA aa i v))) ≤ wD n T + 40 := by
 obtain ⟨h1, h2, rfl⟩ := ha
 obtain ⟨N, g1, g2, g3, g4, g5, g6⟩ := anT h hw h1 h2 hv
 have := adI hv
 exact ⟨N, g1, g2, g3, g4, g5, by omega⟩
theorem aw5 {T : List Tk} {p : Nat} {nm k : Str} {aa : List zf} {i : Nat} {a : zf} (h : anO T p nm k aa i a) (v : Str) : (T.set p (.opn k (VA aa i v)))[p]? = some (.opn k (VA aa i v)) := by
 have hl := (List.getElem?_eq_some_iff.1 h.1).1
 rw [List.getElem?_set_self hl]
theorem anO.set {T : List Tk} {p : Nat} {nm k : Str} {aa : List zf} {i : Nat} {a : zf} (h : anO T p nm k aa i a) (v : Str) : anO (T.set p (.opn k (VA aa i v))) p nm k (VA aa i v) i { a with Value := v } := by
 refine ⟨aw5 h v, ?_, h.2.2⟩
 rw [age, if_pos rfl, h.2.1]
 rfl
end Go.Proofs.YtclohbgnaopjfaaGreatDoor
namespace Go.Proofs.YtclohbgnaopjfaaGreatDoor
set_option linter.unusedSimpArgs false
set_option linter.unusedVariables false
open Go Classical
inductive alY (T : List Tk) : zG → Prop
 | rep (f t : Nat) (l : List za) (hft : f ≤ t) (ht : t ≤ T.length) (hl : vS l) (hw : tw (tkL l) ≤ 1000000) : alY T ⟨114, (f : Int), (t : Int), l, [], []⟩
 | attr (p : Int) (nm v : Str) (h1 : -1 ≤ p) (h2 : p ≤ T.length) (hn : isName nm = true) (hv : isValue v = true) : alY T ⟨97, p, 0, [], nm, v⟩
 | mark (k : Int) (x : Str) (a b : Nat) (hk : k = 109 ∨ k = 117) (hx : isName x = true) (hab : a ≤ b) (hb : b ≤ T.length) : alY T ⟨k, (a : Int), (b : Int), [], x, []⟩
theorem ar2 {n : za} {T : List Tk} (h : TD n T) (hw : wD n T ≤ 500000) (hat : n.zq = []) {s : zG} (hs : alY T s) :
  (∃ e, e ≠ 0 ∧ wP n s = some (afo, e)) ∨
  ∃ N T', wP n s = some (N, 0) ∧ TD N T' ∧ N.Kind = n.Kind ∧ N.zq = n.zq ∧ wD N T' ≤ wD n T + tw (tkL s.wJ) + 90000 := by
 have hsm := h.small
 cases hs with
 | rep f t l hft ht hl hlw =>
  have hlt := aec hl
  rcases YH h (by omega) hft ht hl (by omega) with ⟨P, Y, S, hT, fy, hP, hY⟩ | he
  ·obtain ⟨N, h1, h2, h3, h4, h5, h6⟩ := aet h (by omega) hT fy hl (by omega)
   rw [hP] at h6 hY
   rw [hY] at h6
   by_cases hc : checkN N = 0
   ·right
    rw [if_pos hc] at h6
    refine ⟨N, _, h6, ⟨hc, h2, h5⟩, h3, h4, ?_⟩
    unfold wD at hw ⊢
    rw [h3, h4]
    rw [hT] at hw ⊢
    simp only [J5] at hw ⊢
    omega
   ·left
    rw [if_neg hc] at h6
    exact ⟨checkN N, hc, h6⟩
  ·exact .inl ⟨10, by decide, he⟩
 | attr p nm v h1 h2 hn hv =>
  by_cases hp : p = -1
  ·left
   subst hp
   refine ⟨9, by decide, ?_⟩
   rw [QW h (by omega) _ (abJ hn hv (by omega) (by omega) (by have := YD hn; omega))]
   simp only
   rw [if_neg (by decide), if_pos (by decide), arb h _ rfl hat]
   rfl
  ·obtain ⟨p, rfl⟩ := Int.eq_ofNat_of_zero_le (show 0 ≤ p by omega)
   rcases (ana h (by omega) p (by omega) hn hv).symm with ⟨e, he, hap⟩ | ⟨k, aa, i, a, hA⟩
   ·exact .inl ⟨e, he, hap⟩
   ·right
    obtain ⟨N, a1, _, a3, a4, a5, a6⟩ := atL h (by omega) hA hv
    exact ⟨N, _, a1, a3, a4, a5, by omega⟩
 | mark k x a b hk hx hab hb =>
  right
  have hxl := YD hx
  obtain ⟨N, h1, _, h3, h4, h5⟩ := abZ h (by omega) hk hx hxl hab hb
  have hmw := acI k x a b T 0
  have hml : T.length * (1 + x.length) ≤ 3998 * 21 := Nat.mul_le_mul hsm (by omega)
  exact ⟨N, _, h1, h3, h4, h5, by unfold wD; rw [h4, h5]; omega⟩
end Go.Proofs.YtclohbgnaopjfaaGreatDoor
