/- Texts of the proof of stepMarksCard -/
import Derived.Test.YtclohbgnaopjfaaDoorAgF
import Derived.Lib.RuneCount
import Derived.Lib.SlTrimSet
import Derived.Lib.ValidU
import Derived.Lib.MapLaws
import Derived.Lib.ValidLaws
import Derived.Test.YtclohbgnaopjfaaDoorAgWith
namespace Go.Proofs.YtclohbgnaopjfaaDoor
set_option linter.unusedSimpArgs false
set_option linter.unusedVariables false
open Go
theorem kG {x : Int} (h : -9223372036854775808 ≤ x ∧ x ≤ 9223372036854775807) : w64 x = x := arT h
theorem kK {α : Type} {p : Prop} [Decidable p] (h : p) (x : Option α) : chk p x = x := if_pos h
theorem aiA {α : Type} {l : List α} {i : Nat} {x : α} (h : l[i]? = some x) : rd l (i : Int) = some x := by
  unfold rd; rw [if_pos (by omega)]; simpa using h
theorem Jf {α : Type} (pre suf : List α) (x : α) : rd (pre ++ x :: suf) (pre.length : Int) = some x := aiA (by simp)
theorem aoT {α : Type} {l : List α} {a b : Nat} (h1 : a ≤ b) (h2 : b ≤ l.length) : sl l (a : Int) (b : Int) = some ((l.take b).drop a) := by
  unfold sl; rw [if_pos (by omega)]; simp
theorem aqf {α : Type} (pre suf : List α) : sl (pre ++ suf) 0 (pre.length : Int) = some pre := by
 have := aoT (l := pre ++ suf) (a := 0) (b := pre.length) (by omega) (by simp)
 simpa using this
theorem jd {α : Type} {z : Nat} {l ys : List α} (h : (l.length + ys.length) * z ≤ 140737488355328) : app z l ys = some (l ++ ys) := if_pos h
theorem wP {α : Type} (l : List α) : l = [] ∨ ∃ a x, l = a ++ [x] := by
 rcases List.eq_nil_or_concat l with h | ⟨a, x, h⟩
 ·exact .inl h
 ·exact .inr ⟨a, x, by simpa using h⟩
abbrev jf : Str := [116, 101, 120, 116]
def wL : List Str → Nat
 | [] => 0
 | s :: l => 1 + s.length + wL l
theorem ahU {s : Str} : ∀ {l : List Str}, s ∈ l → s.length ≤ wL l
 | x :: l, h => by
  simp only [wL]
  rcases List.mem_cons.1 h with rfl | h
  ·omega
  ·have := ahU h; omega
theorem aeE (l : List Str) : l.length ≤ wL l := by
 induction l with
 | nil => simp
 | cons s l ih => simp only [List.length_cons, wL]; omega
end Go.Proofs.YtclohbgnaopjfaaDoor
namespace Go.Proofs.YtclohbgnaopjfaaDoor
set_option linter.unusedSimpArgs false
set_option linter.unusedVariables false
open Go
def isT (n : za) : Bool := n.Kind == jf
theorem aqH (n : za) : (n.Kind == ([116, 101, 120, 116] : Str)) = isT n := rfl
theorem za.ind {p : za → Prop} (h : ∀ n : za, (∀ k ∈ n.Kids, p k) → p n) : ∀ n, p n
 | ⟨a, b, c, d, ks⟩ => h _ fun k hk => za.ind h k
 termination_by n => n
 decreasing_by
  have : SizeOf.sizeOf k < SizeOf.sizeOf ks := List.sizeOf_lt_of_mem hk
  simp only [za.mk.sizeOf_spec]
  omega
def agA (s : Str) : Nat := Lib.runeCountL s
theorem aiP (s : Str) : agA s ≤ s.length := by
 have := Lib.runeCountFrom_le ⟨s.toArray⟩ (ByteArray.size ⟨s.toArray⟩) 0
 simpa [agA, Lib.runeCountL, Lib.runeCount, ByteArray.size] using this
theorem ajo (s : Str) : ∀ (f k : Nat) (n : Int) (pos : Nat), s.length - pos ≤ f → f < k → 0 ≤ n → n + f ≤ 9223372036854775807 → zI s k n pos = some (n + Lib.runeCountFrom ⟨s.toArray⟩ f pos) := by
  intro f
  induction f with
  | zero =>
    intro k n pos h1 h2 h3 h4
    obtain ⟨k, rfl⟩ : ∃ j, k = j + 1 := ⟨k - 1, by omega⟩
    have : ¬ pos < s.length := by omega
    simp [zI, this, Lib.runeCountFrom]
  | succ f ih =>
    intro k n pos h1 h2 h3 h4
    obtain ⟨k, rfl⟩ : ∃ j, k = j + 1 := ⟨k - 1, by omega⟩
    rw [zI]
    by_cases hp : pos < s.length
    · have hw := Lib.decode_width_pos ⟨s.toArray⟩ pos (by simpa [ByteArray.size] using hp)
      simp only [hp, decide_true, if_true]
      rw [kG (by omega), ih k (n + 1) _ (by simp only [apM]; omega) (by omega) (by omega) (by omega)]
      have hs : pos < ByteArray.size ⟨s.toArray⟩ := by simpa [ByteArray.size] using hp
      simp only [Lib.runeCountFrom, hs, if_true, apM, Option.some.injEq]
      omega
    · have hs : ¬ pos < ByteArray.size ⟨s.toArray⟩ := by simpa [ByteArray.size] using hp
      simp [hp, Lib.runeCountFrom, hs]
theorem runeCount_eq (s : Str) (h : s.length ≤ 9223372036854775807) : qU s = some (agA s : Int) := by
  have key : (lim fun k => zI s k 0 0) = some (agA s : Int) := by
    refine Jr (s.length + 1) fun k hk => ?_
    rw [ajo s s.length k 0 0 (by omega) (by omega) (by omega) (by omega)]
    simp [agA, Lib.runeCountL, Lib.runeCount, ByteArray.size]
  unfold qU
  rw [key]
  rfl
mutual
def kL : za → Nat
 | ⟨k, t, _, _, ks⟩ => if (k == jf) = true then agA t else 2 + qi ks
def qi : List za → Nat
 | [] => 0
 | n :: l => kL n + qi l
end
mutual
def Wt : za → Nat
 | ⟨_, _, _, _, ks⟩ => 1 + xk ks
def xk : List za → Nat
 | [] => 0
 | n :: l => max (Wt n) (xk l)
end
def vg : List zg → Nat
 | [] => 0
 | a :: l => 1 + a.Name.length + a.Value.length + vg l
mutual
def nwt : za → Nat
 | ⟨k, t, m, a, ks⟩ => 2 + k.length + t.length + wL m + vg a + zU ks
def zU : List za → Nat
 | [] => 0
 | n :: l => nwt n + zU l
end
theorem xu (n : za) : kL n = if isT n = true then agA n.Text else 2 + qi n.Kids := by cases n; simp only [kL, isT]; rfl
theorem Ym {n : za} (h : isT n = false) : kL n = 2 + qi n.Kids := by rw [xu, h]; simp
theorem ZU (n : za) : Wt n = 1 + xk n.Kids := by cases n; simp only [Wt]
theorem wQ (n : za) : nwt n = 2 + n.Kind.length + n.Text.length + wL n.Marks + vg n.zu + zU n.Kids := by cases n; simp only [nwt]
theorem ZM (a b : List za) : zU (a ++ b) = zU a + zU b := by
 induction a with
 | nil => simp [zU]
 | cons n a ih => simp only [List.cons_append, zU, ih]; omega
theorem ali (a b : List za) : qi (a ++ b) = qi a + qi b := by
 induction a with
 | nil => simp [qi]
 | cons n a ih => simp only [List.cons_append, qi, ih]; omega
theorem kM (l : List za) : 2 * l.length ≤ zU l := by
 induction l with
 | nil => simp
 | cons n l ih => have := wQ n; simp only [zU, List.length_cons]; omega
theorem Z7 {n : za} : ∀ {l : List za}, n ∈ l → nwt n ≤ zU l
 | x :: l, h => by
  simp only [zU]
  rcases List.mem_cons.1 h with rfl | h
  ·omega
  ·have := Z7 h; omega
theorem Zc {n : za} : ∀ {l : List za}, n ∈ l → Wt n ≤ xk l
 | x :: l, h => by
  simp only [xk]
  rcases List.mem_cons.1 h with rfl | h
  ·omega
  ·have := Zc h; omega
theorem acO (n : za) : zU n.Kids ≤ nwt n := by have := wQ n; omega
theorem adv : ∀ (l : List za), (∀ n ∈ l, kL n ≤ nwt n) → qi l ≤ zU l
 | [], _ => by simp [qi, zU]
 | n :: l, h => by
  have h1 := h n (by simp)
  have h2 := adv l fun x hx => h x (by simp [hx])
  simp only [qi, zU]; omega
theorem ako (n : za) : kL n ≤ nwt n := by
 induction n using za.ind with
 | h n ih =>
  have h1 := adv n.Kids ih
  have h2 := aiP n.Text
  rw [xu, wQ]
  split <;> omega
theorem Jg (l : List za) : qi l ≤ zU l := adv l fun n _ => ako n
theorem QM (n : za) : vC n = some (isT n) := by unfold vC isT; rfl
theorem aeT (sz : za → Option Int) : ∀ (l : List za) (i acc : Int), (∀ k ∈ l, sz k = some (kL k : Int)) → 0 ≤ acc → acc + qi l ≤ 9223372036854775807 → vW sz l i acc = some (acc + qi l)
  | [], i, acc, _, _, _ => by simp [vW, qi]
  | n :: l, i, acc, h, h0, hb => by
    simp only [qi] at hb
    rw [vW, h n (by simp)]
    simp only [Option.bind_some]
    rw [kG (by omega), aeT sz l _ _ (fun k hk => h k (by simp [hk])) (by omega) (by omega)]
    simp only [qi, Option.some.injEq]
    omega
theorem aoU (n : za) : nwt n ≤ 1099511627776 → ∀ kr, 2 * Wt n ≤ kr → vY kr n = some (kL n : Int) := by
  induction n using za.ind with
  | h n ih =>
    intro hw kr hk
    have hd := ZU n
    obtain ⟨kr, rfl⟩ : ∃ j, kr = j + 1 + 1 := ⟨kr - 2, by omega⟩
    have hwt := wQ n
    have hl := kM n.Kids
    have hs := Jg n.Kids
    rw [vY, QM, xu]
    simp only [Option.bind_some]
    by_cases ht : isT n = true
    · simp only [ht, if_true]
      rw [runeCount_eq _ (by omega)]
      rfl
    · simp only [ht, Bool.false_eq_true, if_false]
      rw [xg, kK (by omega), aeT (vY kr) n.Kids 0 0 (fun k hkk => ih k hkk (by have := Z7 hkk; omega) kr (by have := Zc hkk; omega)) (by omega) (by omega)]
      simp only [Option.bind_some]
      rw [kG (by omega)]
      simp only [Option.some.injEq]
      omega
theorem size_eq (n : za) (h : nwt n ≤ 1099511627776) : yl n = some (kL n : Int) := by
 unfold yl
 exact Jr (2 * Wt n) fun k hk => aoU n h k hk
theorem ak0 (l : List za) (h : zU l ≤ 1099511627776) : jI l = some (qi l : Int) := by
  unfold jI
  refine Jr (2 * xk l + 1) fun kr hk => ?_
  obtain ⟨kr, rfl⟩ : ∃ j, kr = j + 1 := ⟨kr - 1, by omega⟩
  have hl := kM l
  have hs := Jg l
  rw [xg, kK (by omega), aeT (vY kr) l 0 0 (fun k hkk => aoU k (by have := Z7 hkk; omega) kr (by have := Zc hkk; omega)) (by omega) (by omega)]
  simp
theorem abV (b : List Str) : ∀ (suf pre : List Str) (i : Int), i = (pre.length : Int) → b.length = pre.length + suf.length → b.take pre.length = pre → qf b suf i = some (if pre ++ suf = b then .inr () else .inl false)
  | [], pre, i, hi, hl, ht => by
    have : pre = b := by
      rw [← ht, List.take_of_length_le]
      simp at hl; omega
    simp [qf, this]
  | y :: suf, pre, i, hi, hl, ht => by
    simp only [List.length_cons] at hl
    obtain ⟨x, hx⟩ : ∃ x, b[pre.length]? = some x := ⟨b[pre.length], List.getElem?_eq_getElem (by omega)⟩
    rw [qf, hi, aiA hx]
    simp only [Option.bind_some]
    have htk : b.take (pre.length + 1) = pre ++ [x] := by
      rw [List.take_add_one, ht, hx]
      rfl
    by_cases hxy : y = x
    · subst hxy
      simp only [beq_self_eq_true, Bool.not_true, Bool.false_eq_true, if_false]
      rw [abV b suf (pre ++ [y]) _ (by simp) (by simp; omega) (by simpa using htk)]
      simp
    · have : ¬ pre ++ y :: suf = b := by
        intro h
        rw [← h] at hx
        simp at hx
        exact hxy hx
      simp [hxy, this]
theorem aiX (a b : List Str) (h : a.length ≤ 9223372036854775807) : kN a b = some (decide (a = b)) := by
  unfold kN
  by_cases hl : a.length = b.length
  · simp only [hl, bne_self_eq_false, Bool.false_eq_true, if_false]
    rw [kK (by omega), abV b a [] 0 rfl (by simp [hl]) (by simp)]
    by_cases e : a = b <;> simp [e]
  · have h1 : ((a.length : Int) != (b.length : Int)) = true := by simp; omega
    have h2 : ¬ a = b := fun e => hl (by rw [e])
    rw [if_pos h1]
    simp [h2]
def joinStep (out : List za) (n : za) : List za :=
 if (isT n && n.Text == []) = true then out
 else match out.getLast? with
  | some x => if (isT n && isT x && decide (x.Marks = n.Marks)) = true then out.dropLast ++ [{ n with Text := x.Text ++ n.Text }] else out ++ [n]
  | none => out ++ [n]
def Wz (l : List za) : List za := l.foldl joinStep []
theorem kT (n : za) : joinStep [] n = if (isT n && n.Text == []) = true then [] else [n] := by
 unfold joinStep; rfl
theorem wz (o : List za) (x n : za) : joinStep (o ++ [x]) n = if (isT n && n.Text == []) = true then o ++ [x] else if (isT n && isT x && decide (x.Marks = n.Marks)) = true then o ++ [{ n with Text := x.Text ++ n.Text }] else o ++ [x, n] := by
 unfold joinStep
 simp
theorem Xt (o : List za) (n : za) : zU (joinStep o n) ≤ zU o + nwt n := by
 rcases wP o with rfl | ⟨o, x, rfl⟩
 ·rw [kT]
  split <;> simp [zU]
 ·rw [wz]
  split
  ·omega
  ·split
   ·simp only [ZM, zU, wQ, List.length_append]
    omega
   ·simp only [ZM, zU]
    omega
theorem amj : ∀ (l o : List za), zU (l.foldl joinStep o) ≤ zU o + zU l
 | [], o => by simp [zU]
 | n :: l, o => by
  have h1 := Xt o n
  have h2 := amj l (joinStep o n)
  simp only [List.foldl_cons, zU]
  omega
theorem akd (l : List za) : zU (Wz l) ≤ zU l := by
 have := amj l []
 simpa [Wz, zU] using this
end Go.Proofs.YtclohbgnaopjfaaDoor
namespace Go.Proofs.YtclohbgnaopjfaaDoor
set_option linter.unusedSimpArgs false
set_option linter.unusedVariables false
open Go
def vL (a b : za) : Bool := isT a && isT b && decide (a.Marks = b.Marks)
def jh : List za → Prop
 | a :: b :: l => vL a b = false ∧ jh (b :: l)
 | _ => True
end Go.Proofs.YtclohbgnaopjfaaDoor
namespace Go.Proofs.YtclohbgnaopjfaaDoor
set_option linter.unusedSimpArgs false
set_option linter.unusedVariables false
open Go
def ajp (b : Bool) : Bool ⊕ Unit := match b with
 | true => .inr ()
 | false => .inl false
def letter (b : UInt8) : Bool := decide (97 ≤ b.toNat) && decide (b.toNat ≤ 122)
abbrev abc : Str := [97, 98, 99, 100, 101, 102, 103, 104, 105, 106, 107, 108, 109, 110, 111, 112, 113, 114, 115, 116, 117, 118, 119, 120, 121, 122]
def isName (s : Str) : Bool := s.all letter && decide (s ≠ []) && decide (s.length ≤ 8) && decide (s ≠ jf)
theorem ain (b : UInt8) : abc.contains b = letter b := by
 have h : ∀ n, n < 256 → abc.contains (UInt8.ofNat n) = letter (UInt8.ofNat n) := by decide +kernel
 have := h b.toNat b.toNat_lt
 simpa using this
theorem afv (p : UInt8 → Bool) : ∀ l : Str, (∀ x ∈ l.dropWhile p, p x = true) → ∀ x ∈ l, p x = true
  | [], _ => by simp
  | a :: l, h => by
    by_cases ha : p a = true
    · rw [List.dropWhile_cons_of_pos ha] at h
      intro x hx
      rcases List.mem_cons.1 hx with rfl | hx
      · exact ha
      · exact afv p l h x hx
    · rw [List.dropWhile_cons_of_neg ha] at h
      exact (ha (h a (by simp))).elim
theorem ajs (p : UInt8 → Bool) : ∀ l : Str, (∀ x ∈ l, p x = true) → l.dropWhile p = []
  | [], _ => rfl
  | a :: l, h => by
    rw [List.dropWhile_cons_of_pos (h a (by simp))]
    exact ajs p l fun x hx => h x (by simp [hx])
theorem apa (s : Str) : (Lib.trimS s abc == []) = s.all letter := by
  have hp : (fun b => abc.contains b) = letter := funext ain
  unfold Lib.trimS Lib.trimLeftS Lib.trimRightS
  rw [hp]
  cases h : s.all letter with
  | true =>
    have h' := List.all_eq_true.1 h
    rw [ajs letter s.reverse fun x hx => h' x (by simpa using hx)]
    rfl
  | false =>
    rw [beq_eq_false_iff_ne]
    intro e
    have h1 : ∀ x ∈ (s.reverse.dropWhile letter).reverse, letter x = true := afv letter _ (by rw [e]; simp)
    have h2 := afv letter s.reverse fun x hx => h1 x (by simpa using hx)
    have h3 : s.all letter = true := List.all_eq_true.2 fun x hx => h2 x (by simpa using hx)
    rw [h] at h3
    cases h3
theorem abh (s : Str) (h : s.length ≤ 9223372036854775807) : x9 s = some (isName s) := by
 unfold x9 WV isName
 rw [kK ⟨h, by decide, by decide⟩]
 simp only [Option.bind_some, apa]
 cases h1 : s.all letter with
 | false => simp
 | true =>
  by_cases h2 : s = []
  ·simp [h2]
  ·by_cases h3 : s.length ≤ 8
   ·have g3 : decide ((s.length : Int) ≤ 8) = true := by simp; omega
    have g2 : (s == []) = false := by simpa using h2
    simp only [if_true, g2, Bool.not_false, g3, h2, h3, ne_eq, not_false_eq_true, decide_true, Bool.true_and]
    by_cases h4 : s = jf <;> simp [h4]
   ·have g3 : decide ((s.length : Int) ≤ 8) = false := by simp; omega
    have g2 : (s == []) = false := by simpa using h2
    simp only [if_true, g2, Bool.not_false, g3, Bool.false_eq_true, if_false]
    simp [h3]
end Go.Proofs.YtclohbgnaopjfaaDoor
namespace Go.Proofs.YtclohbgnaopjfaaDoor
set_option linter.unusedSimpArgs false
set_option linter.unusedVariables false
open Go
def isValue (s : Str) : Bool := decide (s.length ≤ 40) && Lib.validD s
theorem ajT (s : Str) (h : s.length ≤ 9223372036854775807) : QF s = some (isValue s) := by
 unfold QF wB isValue
 rw [kK h]
 by_cases h3 : s.length ≤ 40
 ·have g3 : decide ((s.length : Int) ≤ 40) = true := by simp; omega
  simp [g3, h3]
 ·have g3 : decide ((s.length : Int) ≤ 40) = false := by simp; omega
  simp only [g3, Bool.false_eq_true, if_false]
  simp [h3]
def yj : Option Str → List Str → Bool
 | _, [] => true
 | last, y :: l => isName y && (match last with | none => true | some x => !(Op.bytesLess y x || y == x)) && yj (some y) l
theorem KC (last : Option Str) (y : Str) (l : List Str) : yj last (y :: l) = (isName y && (match last with | none => true | some x => !(Op.bytesLess y x || y == x)) && yj (some y) l) := by cases last <;> rfl
def jm (l : List Str) : Bool := yj none l
theorem aml : ∀ (suf pre : List Str), (∀ s ∈ suf, s.length ≤ 9223372036854775807) → (pre ++ suf).length ≤ 4611686018427387904 → kV (pre ++ suf) suf (pre.length : Int) = some (ajp (yj pre.getLast? suf))
  | [], pre, _, _ => by simp [kV, yj, ajp]
  | y :: suf, pre, h, hb => by
    have e : (pre.length : Int) + 1 = ((pre ++ [y]).length : Int) := by simp
    have ih := aml suf (pre ++ [y]) (fun s hs => h s (by simp [hs])) (by simpa using hb)
    rw [List.append_assoc, List.singleton_append, ← e, List.getLast?_append, List.getLast?_singleton] at ih
    simp only [Option.some_or] at ih
    rw [kV, abh y (h y (by simp))]
    simp only [Option.bind_some]
    rw [KC]
    rcases Bool.eq_false_or_eq_true (isName y) with hn | hn
    rotate_left
    · simp [hn, ajp]
    · rw [hn]
      simp only [Bool.not_true, Bool.false_eq_true, if_false, Bool.true_and]
      rcases wP pre with rfl | ⟨p, x, rfl⟩
      · have g : decide ((([] : List Str).length : Int) > 0) = false := by decide
        simp only [g, Bool.false_eq_true, if_false]
        rw [ih]
        simp
      · have g : decide (((p ++ [x]).length : Int) > 0) = true := decide_eq_true (by simp only [List.length_append, List.length_cons, List.length_nil]; omega)
        have hr : rd (p ++ [x] ++ y :: suf) (w64 (((p ++ [x]).length : Int) - 1)) = some x := by
          simp only [List.length_append, List.length_cons, List.length_nil] at hb
          rw [kG (by simp; omega)]
          have e2 : ((p ++ [x]).length : Int) - 1 = (p.length : Int) := by simp
          rw [e2, List.append_assoc]
          exact Jf p (y :: suf) x
        simp only [g, if_true, hr, Option.bind_some, List.getLast?_append, List.getLast?_singleton, Option.some_or]
        rcases Bool.eq_false_or_eq_true (Op.bytesLess y x || y == x) with hc | hc
        · simp only [hc, if_true, Bool.not_true, Bool.false_and, ajp]
        · simp only [hc, Bool.false_eq_true, if_false, Bool.not_false, Bool.true_and]
          exact ih
theorem amo (l : List Str) (h : ∀ s ∈ l, s.length ≤ 9223372036854775807) (hb : l.length ≤ 4611686018427387904) : Kh l = some (jm l) := by
  have h0 := aml l [] h (by simpa using hb)
  have h0' : kV l l 0 = _ := h0
  unfold Kh
  rw [kK (by omega), h0']
  simp only [Option.bind_some, List.getLast?_nil, jm]
  cases yj none l <;> rfl
theorem aqd (b : List Str) : ∀ (suf pre : List Str) (i : Int), i = (pre.length : Int) → b.length = pre.length + suf.length → b.take pre.length = pre → zW b suf i = some (if pre ++ suf = b then .inr () else .inl false)
  | [], pre, i, hi, hl, ht => by
    have : pre = b := by
      rw [← ht, List.take_of_length_le]
      simp at hl; omega
    simp [zW, this]
  | y :: suf, pre, i, hi, hl, ht => by
    simp only [List.length_cons] at hl
    obtain ⟨x, hx⟩ : ∃ x, b[pre.length]? = some x := ⟨b[pre.length], List.getElem?_eq_getElem (by omega)⟩
    rw [zW, hi, aiA hx]
    simp only [Option.bind_some]
    have htk : b.take (pre.length + 1) = pre ++ [x] := by
      rw [List.take_add_one, ht, hx]
      rfl
    by_cases hxy : y = x
    · subst hxy
      simp only [beq_self_eq_true, Bool.not_true, Bool.false_eq_true, if_false]
      rw [aqd b suf (pre ++ [y]) _ (by simp) (by simp; omega) (by simpa using htk)]
      simp
    · have : ¬ pre ++ y :: suf = b := by
        intro h
        rw [← h] at hx
        simp at hx
        exact hxy hx
      simp [hxy, this]
theorem asA (a b : List Str) (h : a.length ≤ 9223372036854775807) : slices_Equal_string a b = some (decide (a = b)) := by
  unfold slices_Equal_string
  by_cases hl : a.length = b.length
  · simp only [hl, bne_self_eq_false, Bool.false_eq_true, if_false]
    rw [kK (by omega), aqd b a [] 0 rfl (by simp [hl]) (by simp)]
    by_cases e : a = b <;> simp [e]
  · have h1 : ((a.length : Int) != (b.length : Int)) = true := by simp; omega
    have h2 : ¬ a = b := fun e => hl (by rw [e])
    rw [if_pos h1]
    simp [h2]
theorem akz (a b : za) (h : a.Marks.length ≤ 9223372036854775807) : Zg a b = some (vL a b) := by
 unfold Zg vL
 rw [QM, QM]
 simp only [Option.bind_some]
 rw [asA _ _ h]
 cases isT a <;> cases isT b <;> simp
mutual
def qK : za → Bool
 | ⟨k, t, m, a, ks⟩ => if (k == jf) = true then (decide (t ≠ []) && Lib.validD t && jm m && decide (a.length + ks.length = 0)) else (a.all (fun x => isValue x.Value) && isName k && decide (t = []) && decide (m = []) && jm (a.map (·.Name)) && xV none ks)
def xV : Option za → List za → Bool
 | _, [] => true
 | last, n :: l => qK n && (match last with | none => true | some x => !vL x n) && xV (some n) l
end
theorem Q6 (last : Option za) (n : za) (l : List za) : xV last (n :: l) = (qK n && (match last with | none => true | some x => !vL x n) && xV (some n) l) := by cases last <;> simp only [xV]
theorem aaD (last : Option za) : xV last [] = true := by cases last <;> simp only [xV]
theorem jS (n : za) : qK n = if isT n = true then (decide (n.Text ≠ []) && Lib.validD n.Text && jm n.Marks && decide (n.zu.length + n.Kids.length = 0)) else (n.zu.all (fun x => isValue x.Value) && isName n.Kind && decide (n.Text = []) && decide (n.Marks = []) && jm (n.zu.map (·.Name)) && xV none n.Kids) := by
 cases n; simp only [qK, isT]; rfl
theorem af7 {a : zg} : ∀ {l : List zg}, a ∈ l → a.Name.length + a.Value.length ≤ vg l
 | x :: l, h => by
  simp only [vg]
  rcases List.mem_cons.1 h with rfl | h
  ·omega
  ·have := af7 h; omega
theorem ap4 (l : List zg) : l.length ≤ vg l := by
 induction l with
 | nil => simp
 | cons s l ih => simp only [List.length_cons, vg]; omega
theorem ahy : ∀ (l : List zg) (i : Int) (out : List Str), (out.length + l.length) * 16 ≤ 140737488355328 → vg l ≤ 1099511627776 → ve l i out = some (if l.all (fun x => isValue x.Value) = true then .inr (out ++ l.map (·.Name)) else .inl false)
  | [], i, out, _, _ => by simp [ve]
  | a :: l, i, out, hb, hw => by
    simp only [vg] at hw
    simp only [List.length_cons] at hb
    rw [ve, ajT _ (by omega)]
    simp only [Option.bind_some]
    rcases Bool.eq_false_or_eq_true (isValue a.Value) with hv | hv
    rotate_left
    · simp [hv]
    · simp only [hv, Bool.not_true, Bool.false_eq_true, if_false, List.all_cons, Bool.true_and]
      rw [jd (by simp; omega)]
      simp only [Option.bind_some]
      rw [ahy l _ _ (by simp; omega) (by omega)]
      simp
theorem ahk (n : za) (f : za → Option Bool) : ∀ (suf pre : List za), n.Kids = pre ++ suf → (∀ k ∈ suf, f k = some (qK k)) → zU n.Kids ≤ 1099511627776 → w9 n f suf (pre.length : Int) = some (ajp (xV pre.getLast? suf))
  | [], pre, _, _, _ => by simp [w9, aaD, ajp]
  | y :: suf, pre, hk, hf, hw => by
    have e : (pre.length : Int) + 1 = ((pre ++ [y]).length : Int) := by simp
    have ih := ahk n f suf (pre ++ [y]) (by rw [hk]; simp) (fun s hs => hf s (by simp [hs])) hw
    rw [← e, List.getLast?_append, List.getLast?_singleton] at ih
    simp only [Option.some_or] at ih
    rw [w9, hf y (by simp)]
    simp only [Option.bind_some]
    rw [Q6]
    rcases Bool.eq_false_or_eq_true (qK y) with hn | hn
    rotate_left
    · simp [hn, ajp]
    · rw [hn]
      simp only [Bool.not_true, Bool.false_eq_true, if_false, Bool.true_and]
      rcases wP pre with rfl | ⟨p, x, rfl⟩
      · have g : decide ((([] : List za).length : Int) > 0) = false := by decide
        simp only [g, Bool.false_eq_true, if_false]
        rw [ih]
        simp
      · have g : decide (((p ++ [x]).length : Int) > 0) = true := decide_eq_true (by simp only [List.length_append, List.length_cons, List.length_nil]; omega)
        have hl := kM n.Kids
        have hr : rd n.Kids (w64 (((p ++ [x]).length : Int) - 1)) = some x := by
          rw [hk] at hl ⊢
          simp only [List.length_append, List.length_cons, List.length_nil] at hl
          rw [kG (by simp; rw [hk] at hw; omega)]
          have e2 : ((p ++ [x]).length : Int) - 1 = (p.length : Int) := by simp
          rw [e2, List.append_assoc]
          exact Jf p (y :: suf) x
        have hx : nwt x ≤ zU n.Kids := Z7 (by rw [hk]; simp)
        have hxw := wQ x
        have hxm := aeE x.Marks
        simp only [g, if_true, hr, Option.bind_some, List.getLast?_append, List.getLast?_singleton, Option.some_or]
        rw [akz x y (by omega)]
        simp only [Option.bind_some]
        rcases Bool.eq_false_or_eq_true (vL x y) with hc | hc
        · simp only [hc, if_true, Bool.not_true, Bool.false_and, ajp]
        · simp only [hc, Bool.false_eq_true, if_false, Bool.not_false, Bool.true_and]
          exact ih
theorem apA (n : za) : nwt n ≤ 1099511627776 → ∀ kr, Wt n ≤ kr → kD kr n = some (qK n) := by
  induction n using za.ind with
  | h n ih =>
    intro hw kr hk
    have hd := ZU n
    obtain ⟨kr, rfl⟩ : ∃ j, kr = j + 1 := ⟨kr - 1, by omega⟩
    have hwt := wQ n
    have hl := kM n.Kids
    have hm := aeE n.Marks
    have ha := ap4 n.zu
    rw [kD, QM, jS]
    simp only [Option.bind_some]
    by_cases ht : isT n = true
    · simp only [ht, if_true]
      by_cases h1 : n.Text = []
      · simp [h1]
      · have g1 : (n.Text == []) = false := by simpa using h1
        simp only [g1, Bool.not_false, if_true]
        unfold wB
        rw [kK (by omega)]
        simp only [Option.bind_some]
        cases hv : Lib.validD n.Text with
        | false => simp
        | true =>
          simp only [if_true]
          rw [amo _ (fun s hs => by have := ahU hs; omega) (by omega)]
          simp only [Option.bind_some]
          rw [kG (by omega)]
          cases hr : jm n.Marks with
          | false => simp
          | true =>
            simp only [if_true, ne_eq, h1, not_false_eq_true, decide_true, Bool.true_and, Option.some.injEq]
            rw [Bool.eq_iff_iff]
            simp only [beq_iff_eq, decide_eq_true_eq]
            omega
    · simp only [ht, Bool.false_eq_true, if_false]
      rw [kK (by omega), ahy _ _ _ (by simp; omega) (by omega)]
      simp only [Option.bind_some]
      cases hv : n.zu.all (fun x => isValue x.Value) with
      | false => simp
      | true =>
        simp only [if_true, List.nil_append, Bool.true_and]
        rw [abh _ (by omega)]
        simp only [Option.bind_some]
        cases h2 : isName n.Kind with
        | false => simp
        | true =>
          simp only [Bool.not_true, Bool.false_eq_true, if_false, Bool.true_and]
          by_cases h3 : n.Text = []
          · by_cases h4 : n.Marks = []
            · have g4 : decide ((n.Marks.length : Int) > 0) = false := by simp [h4]
              have g3 : (n.Text == []) = true := by simp [h3]
              simp only [g3, Bool.not_true, Bool.false_eq_true, if_false, g4]
              rw [amo _ (fun s hs => by
                obtain ⟨a, ha', rfl⟩ := List.mem_map.1 hs
                have := af7 ha'; omega) (by simp; omega)]
              simp only [Option.bind_some]
              cases hr : jm (n.zu.map (·.Name)) with
              | false => simp
              | true =>
                simp only [Bool.not_true, Bool.false_eq_true, if_false]
                have h0 := ahk n (kD kr) n.Kids [] rfl (fun k hkk => ih k hkk (by have := Z7 hkk; omega) kr (by have := Zc hkk; omega)) (by omega)
                have h0' : w9 n (kD kr) n.Kids 0 = _ := h0
                rw [kK (by omega), h0']
                simp only [Option.bind_some, List.getLast?_nil, h3, h4, decide_true, Bool.true_and]
                cases xV none n.Kids <;> rfl
            · have g4 : decide ((n.Marks.length : Int) > 0) = true := by
                have := List.length_pos_iff.2 h4
                simp; omega
              have g3 : (n.Text == []) = true := by simp [h3]
              simp only [g3, Bool.not_true, Bool.false_eq_true, if_false, g4, if_true]
              simp [h4]
          · have g3 : (n.Text == []) = false := by simpa using h3
            simp only [g3, Bool.not_false, if_true]
            simp [h3]
theorem anU (n : za) (h : nwt n ≤ 1099511627776) : Q0 n = some (qK n) := by
 unfold Q0
 exact Jr (Wt n) fun kr hk => apA n h kr hk
mutual
def xG : za → Nat
 | ⟨k, _, _, _, ks⟩ => if (k == jf) = true then 0 else qX ks + 1
def qX : List za → Nat
 | [] => 0
 | n :: l => max (xG n) (qX l)
end
theorem ZV (n : za) : xG n = if isT n = true then 0 else qX n.Kids + 1 := by cases n; simp only [xG, isT]; rfl
theorem aj5 : ∀ (l : List za), (∀ n ∈ l, xG n ≤ Wt n) → qX l ≤ xk l
 | [], _ => by simp [qX, xk]
 | n :: l, h => by
  have h1 := h n (by simp)
  have h2 := aj5 l fun x hx => h x (by simp [hx])
  simp only [qX, xk]; omega
theorem ami (n : za) : xG n ≤ Wt n := by
 induction n using za.ind with
 | h n ih =>
  have h1 := aj5 n.Kids ih
  rw [ZV, ZU]
  split <;> omega
theorem agI (l : List za) (h : ∀ n ∈ l, Wt n ≤ nwt n) : xk l ≤ zU l := by
 induction l with
 | nil => simp [xk, zU]
 | cons k l ih =>
  have h1 := h k (by simp)
  have h2 := ih fun x hx => h x (by simp [hx])
  simp only [xk, zU]; omega
theorem amS (n : za) : Wt n ≤ nwt n := by
 induction n using za.ind with
 | h n ih =>
  have h1 := agI n.Kids ih
  have h2 := ZU n
  have h3 := wQ n
  omega
theorem akl (f : za → Option Int) : ∀ (l : List za) (i : Int) (d : Nat), (∀ k ∈ l, f k = some (xG k : Int)) → kY f l i (d : Int) = some ((max d (qX l) : Nat) : Int)
  | [], i, d, _ => by simp [kY, qX]
  | n :: l, i, d, h => by
    rw [kY, h n (by simp)]
    simp only [Option.bind_some]
    have e : (if (xG n : Int) > (d : Int) then (xG n : Int) else (d : Int)) = ((max d (xG n) : Nat) : Int) := by split <;> omega
    rw [e, akl f l _ _ fun k hk => h k (by simp [hk])]
    simp only [qX, Option.some.injEq]
    omega
theorem arl (n : za) : nwt n ≤ 1099511627776 → ∀ kr, Wt n ≤ kr → kX kr n = some (xG n : Int) := by
  induction n using za.ind with
  | h n ih =>
    intro hw kr hk
    have hd := ZU n
    obtain ⟨kr, rfl⟩ : ∃ j, kr = j + 1 := ⟨kr - 1, by omega⟩
    have hwt := wQ n
    have hl := kM n.Kids
    have hdl := ami n
    have hdw := amS n
    rw [kX, QM]
    simp only [Option.bind_some]
    by_cases ht : isT n = true
    · simp [ht, ZV n]
    · have e := ZV n
      rw [if_neg ht] at e
      simp only [ht, Bool.false_eq_true, if_false]
      have h0 := akl (kX kr) n.Kids 0 0 (fun k hkk => ih k hkk (by have := Z7 hkk; omega) kr (by have := Zc hkk; omega))
      have h0' : kY (kX kr) n.Kids 0 0 = _ := h0
      rw [kK (by omega), h0']
      simp only [Option.bind_some, Nat.zero_max]
      rw [kG (by omega), e]
      rfl
theorem ao7 (n : za) (h : nwt n ≤ 1099511627776) : Kq n = some (xG n : Int) := by
 unfold Kq
 exact Jr (Wt n) fun kr hk => arl n h kr hk
def checkN (n : za) : Int := if qK n = false then 2 else if 40 < xG n then 4 else if 4000 < kL n then 5 else 0
theorem akN (n : za) (h : nwt n ≤ 1099511627776) : xS n = some (checkN n) := by
 unfold xS checkN
 rw [anU n h]
 simp only [Option.bind_some]
 cases hf : qK n with
 | false => simp
 | true =>
  simp only [Bool.not_true, Bool.false_eq_true, if_false]
  rw [ao7 n h]
  simp only [Option.bind_some]
  by_cases hd : 40 < xG n
  ·have g : decide ((xG n : Int) > 40) = true := by simp; omega
   simp [g, hd]
  ·have g : decide ((xG n : Int) > 40) = false := by simp; omega
   simp only [g, Bool.false_eq_true, if_false]
   rw [size_eq n h]
   simp only [Option.bind_some, hd, if_false]
   by_cases hs : 4000 < kL n
   ·have g : decide ((kL n : Int) > 4000) = true := by simp; omega
    simp [g, hs]
   ·have g : decide ((kL n : Int) > 4000) = false := by simp; omega
    simp only [g, Bool.false_eq_true, if_false, hs]
    simp
end Go.Proofs.YtclohbgnaopjfaaDoor
namespace Go.Proofs.YtclohbgnaopjfaaDoor
set_option linter.unusedSimpArgs false
set_option linter.unusedVariables false
open Go
theorem aii (p : List za) (x n : za) (hx : isT x = true) (hn : isT n = true) (hm : x.Marks = n.Marks) (ha : x.zu = n.zu) (hk : x.Kids = n.Kids) : joinStep (joinStep p x) n = joinStep p { n with Text := x.Text ++ n.Text } := by
 have hkd : x.Kind = n.Kind := by
  have h1 : x.Kind = jf := by simpa [isT] using hx
  have h2 : n.Kind = jf := by simpa [isT] using hn
  rw [h1, h2]
 have hxn : ({ n with Text := x.Text ++ n.Text } : za).Marks = n.Marks := rfl
 have hnt : isT { n with Text := x.Text ++ n.Text } = true := hn
 by_cases hx0 : x.Text = []
 ·have e1 : joinStep p x = p := by unfold joinStep; simp [hx, hx0]
  have e2 : ({ n with Text := x.Text ++ n.Text } : za) = n := by cases n; simp [hx0]
  rw [e1, e2]
 ·by_cases hn0 : n.Text = []
  ·have e1 : ∀ o, joinStep o n = o := fun o => by unfold joinStep; simp [hn, hn0]
   have e2 : ({ n with Text := x.Text ++ n.Text } : za) = x := by cases x; cases n; simp_all
   rw [e1, e2]
  ·have hxn0 : (({ n with Text := x.Text ++ n.Text } : za).Text == []) = false := by simp [hx0]
   have hx0' : (x.Text == []) = false := by simpa using hx0
   have hn0' : (n.Text == []) = false := by simpa using hn0
   rcases wP p with rfl | ⟨p, y, rfl⟩
   ·rw [kT, kT]
    simp only [hx0', Bool.and_false, Bool.false_eq_true, if_false, hxn0]
    have := wz [] x n
    rw [List.nil_append] at this
    rw [this]
    simp [hn, hx, hn0', hm]
   ·rw [wz, wz]
    simp only [hx0', Bool.and_false, Bool.false_eq_true, if_false, hxn0, hx, hnt, Bool.true_and]
    by_cases hc : (isT y && decide (y.Marks = n.Marks)) = true
    ·have hc' : (isT y && decide (y.Marks = x.Marks)) = true := by rw [hm]; exact hc
     rw [if_pos hc', if_pos hc, wz]
     have hxt : ∀ m, isT { x with Text := y.Text ++ x.Text, Marks := m } = true := fun _ => hx
     simp [hn, hn0', hxt, hm, List.append_assoc]
    ·have hc' : ¬ (isT y && decide (y.Marks = x.Marks)) = true := by rw [hm]; exact hc
     rw [if_neg hc', if_neg hc]
     have := wz (p ++ [y]) x n
     rw [List.append_assoc] at this
     rw [List.singleton_append] at this
     rw [this]
     simp [hn, hx, hn0', hm]
def Plain (n : za) : Prop := isT n = true → n.zu = [] ∧ n.Kids = []
end Go.Proofs.YtclohbgnaopjfaaDoor
namespace Go.Proofs.YtclohbgnaopjfaaDoor
set_option linter.unusedSimpArgs false
set_option linter.unusedVariables false
open Go
theorem am3 : ∀ (l : List za) (i : Int) (o : List za), zU o + zU l ≤ 1099511627776 → zS l i o = some (l.foldl joinStep o)
  | [], i, o, _ => by simp [zS]
  | n :: l, i, o, hw => by
    simp only [zU] at hw
    have hjw := Xt o n
    have ih := am3 l (i + 1) (joinStep o n) (by omega)
    have hol := kM o
    rw [zS, List.foldl_cons]
    have eapp : app 104 o [n] = some (o ++ [n]) := jd (by simp; omega)
    rcases wP o with rfl | ⟨o, x, rfl⟩
    · rw [kT] at ih ⊢
      by_cases ht : isT n = true
      · have ht' : (n.Kind == jf) = true := ht
        by_cases he : n.Text = []
        · simp only [ht, he, Bool.true_and, beq_self_eq_true, if_true] at ih ⊢
          simp only [ht', if_true, Option.bind_some]
          exact ih
        · have he' : (n.Text == []) = false := by simp [he]
          simp only [ht, he', Bool.true_and, Bool.false_eq_true, if_false] at ih ⊢
          simp only [ht', he', Bool.false_eq_true, if_true, if_false, Option.bind_some, List.length_nil]
          have hneg : decide (w64 ((0 : Nat) - 1 : Int) ≥ 0) = false := by rw [kG (by omega)]; simp
          simp only [hneg, Bool.false_eq_true, if_false, eapp, Option.bind_some]
          exact ih
      · have ht' : (n.Kind == jf) = false := by simpa [isT] using ht
        have ht2 : isT n = false := by simpa using ht
        simp only [ht2, Bool.false_and, Bool.false_eq_true, if_false] at ih ⊢
        simp only [ht', Bool.false_eq_true, if_false, Option.bind_some, eapp]
        exact ih
    · rw [wz] at ih ⊢
      have hx : rd (o ++ [x]) (w64 (((o ++ [x]).length : Int) - 1)) = some x := by
        rw [kG (by simp at hol ⊢; omega)]
        have : ((o ++ [x]).length : Int) - 1 = (o.length : Int) := by simp
        rw [this]
        exact Jf o [] x
      have hsl : sl (o ++ [x]) 0 (w64 (((o ++ [x]).length : Int) - 1)) = some o := by
        rw [kG (by simp at hol ⊢; omega)]
        have : ((o ++ [x]).length : Int) - 1 = (o.length : Int) := by simp
        rw [this]
        exact aqf o [x]
      have hpos : decide (w64 (((o ++ [x]).length : Int) - 1) ≥ 0) = true := by
        rw [kG (by simp at hol ⊢; omega)]
        simp
      have hwx : nwt x ≤ zU (o ++ [x]) := Z7 (by simp)
      have hx1 := wQ x
      have hn1 := wQ n
      by_cases ht : isT n = true
      · have ht' : (n.Kind == jf) = true := ht
        by_cases he : n.Text = []
        · simp only [ht, he, Bool.true_and, beq_self_eq_true, if_true] at ih ⊢
          simp only [ht', if_true, Option.bind_some]
          exact ih
        · have he' : (n.Text == []) = false := by simp [he]
          simp only [ht, he', Bool.true_and, Bool.false_eq_true, if_false] at ih ⊢
          simp only [ht', he', Bool.false_eq_true, if_true, if_false, Option.bind_some, hpos, hx]
          by_cases hxt : isT x = true
          · have hxt' : (x.Kind == jf) = true := hxt
            have hml : x.Marks.length ≤ 9223372036854775807 := by
              have : ∀ l : List Str, l.length ≤ wL l := by
                intro l; induction l with
                | nil => simp
                | cons s l ih => simp [wL]; omega
              have := this x.Marks
              omega
            simp only [hxt', if_true]
            rw [aiX _ _ hml]
            simp only [Option.bind_some, hxt, Bool.true_and] at ih ⊢
            by_cases hm : x.Marks = n.Marks
            · simp only [hm, decide_true, if_true] at ih ⊢
              rw [kK (by omega), hsl]
              simp only [Option.bind_some]
              have hol2 := kM (o ++ [x])
              simp only [List.length_append, List.length_cons, List.length_nil] at hol2
              rw [jd (by simp; omega)]
              simp only [Option.bind_some, List.nil_append]
              rw [jd (by simp; omega)]
              simp only [Option.bind_some]
              exact ih
            · simp only [hm, decide_false, Bool.false_eq_true, if_false] at ih ⊢
              rw [eapp]
              simp only [Option.bind_some, List.append_assoc, List.cons_append, List.nil_append]
              exact ih
          · have hxt' : (x.Kind == jf) = false := by simpa [isT] using hxt
            have hx2 : isT x = false := by simpa using hxt
            simp only [hx2, Bool.false_and, Bool.false_eq_true, if_false] at ih ⊢
            simp only [hxt', Bool.false_eq_true, if_false, eapp, Option.bind_some, List.append_assoc, List.cons_append, List.nil_append]
            exact ih
      · have ht' : (n.Kind == jf) = false := by simpa [isT] using ht
        have ht2 : isT n = false := by simpa using ht
        simp only [ht2, Bool.false_and, Bool.false_eq_true, if_false] at ih ⊢
        simp only [ht', Bool.false_eq_true, if_false, Option.bind_some, eapp, List.append_assoc, List.cons_append, List.nil_append]
        exact ih
theorem join_eq (l : List za) (h : zU l ≤ 1099511627776) : jW l = some (Wz l) := by
  have hl := kM l
  unfold jW
  rw [kK (by omega), am3 l 0 [] (by simpa [zU] using h)]
  rfl
end Go.Proofs.YtclohbgnaopjfaaDoor
namespace Go.Proofs.YtclohbgnaopjfaaDoor
set_option linter.unusedSimpArgs false
set_option linter.unusedVariables false
open Go
abbrev apg : List Str := [[97], [98, 99], [195, 169], [120, 32, 121], [230, 151, 165, 230, 156, 172]]
abbrev asr : List Str := [[112, 97, 114, 97], [105, 116, 101, 109], [108, 105, 115, 116], [110, 111, 116, 101]]
abbrev asH : Str := [97, 108, 105, 103, 110]
def atf (t : Str) : Prop := t ≠ [] ∧ ∃ l : List Str, (∀ x ∈ l, x ∈ apg) ∧ t = l.flatten
def asI (m : List Str) : Prop := m = [] ∨ m = [[98]] ∨ m = [[98], [105]]
def asN (a : List zg) : Prop := a = [] ∨ ∃ v ∈ apg, a = [⟨asH, v⟩]
inductive MN : za → Prop
 | text (t : Str) (m : List Str) (ht : atf t) (hm : asI m) : MN ⟨jf, t, m, [], []⟩
 | node (k : Str) (a : List zg) (ks : List za) (hk : k ∈ asr) (ha : asN a) (hs : ∀ x ∈ ks, MN x) (hj : jh ks) : MN ⟨k, [], [], a, ks⟩
theorem amt : ∀ (o : List za) (x n : za), jh (o ++ [x]) → vL x n = false → jh (o ++ [x, n])
 | [], x, n, _, h => ⟨h, trivial⟩
 | [a], x, n, h1, h => ⟨h1.1, h, trivial⟩
 | a :: b :: o, x, n, h1, h => ⟨h1.1, amt (b :: o) x n h1.2 h⟩
theorem anN (a b : List za) : xk (a ++ b) = max (xk a) (xk b) := by
 induction a with
 | nil => simp [xk]
 | cons n a ih => simp only [List.cons_append, xk, ih]; omega
structure auv (i : Nat) (o : List za) : Prop where
 mn : ∀ x ∈ o, MN x
 wt : zU o ≤ 24 * i
 dep : xk o ≤ i
end Go.Proofs.YtclohbgnaopjfaaDoor
namespace Go.Proofs.YtclohbgnaopjfaaDoor
set_option linter.unusedSimpArgs false
set_option linter.unusedVariables false
open Go
theorem aau (s : Str) (g : Value → Int) (hg : ∀ n, g (.int .i32 n) = n) : ∀ (f pos : Nat) (acc : Array Value), (Conv.runesFrom ⟨s.toArray⟩ f pos acc).toList.map g = acc.toList.map g ++ (Conv.runesFrom ⟨s.toArray⟩ f pos #[]).toList.map g
 | 0, pos, acc => by simp [Conv.runesFrom]
 | f + 1, pos, acc => by
  unfold Conv.runesFrom
  split
  ·rw [aau s g hg f _ (acc.push _), aau s g hg f _ (#[].push _)]
   simp
  ·simp
def rn : Nat → Str → List Int
 | 0, _ => []
 | f + 1, s => if s = [] then [] else ((Lib.decodeL s).1 : Int) :: rn f (s.drop (Lib.decodeL s).2)
theorem ak8 (s : Str) (g : Value → Int) (hg : ∀ n, g (.int .i32 n) = n) : ∀ (f pos : Nat), (Conv.runesFrom ⟨s.toArray⟩ f pos #[]).toList.map g = rn f (s.drop pos)
  | 0, pos => by simp [Conv.runesFrom, rn]
  | f + 1, pos => by
    unfold Conv.runesFrom rn
    have hz : ByteArray.size ⟨s.toArray⟩ = s.length := by simp [ByteArray.size]
    by_cases h : pos < s.length
    · have hne : s.drop pos ≠ [] := by simp; omega
      have hd : Lib.decodeL (s.drop pos) = Utf8.decode ⟨s.toArray⟩ pos := by
        have := Lib.decodeL_drop ⟨s.toArray⟩ pos
        simpa using this
      rw [if_pos (by rw [hz]; exact h), if_neg hne, aau s g hg, ak8 s g hg f, hd, List.drop_drop]
      simp [hg]
    · have hne : s.drop pos = [] := by simp; omega
      rw [if_neg (by rw [hz]; exact h), if_pos hne]
      simp
theorem abY (s : Str) : runes s = rn s.length s := by
 unfold runes
 rw [ak8 s _ (fun _ => rfl)]
 simp
def aff (c : Nat) : List UInt8 :=
 if c < 0x80 then [UInt8.ofNat c]
 else if c < 0x800 then [UInt8.ofNat (0xC0 + c / 64), UInt8.ofNat (0x80 + c % 64)]
 else if c < 0x10000 then [UInt8.ofNat (0xE0 + c / 4096), UInt8.ofNat (0x80 + c / 64 % 64), UInt8.ofNat (0x80 + c % 64)]
 else [UInt8.ofNat (0xF0 + c / 262144), UInt8.ofNat (0x80 + c / 4096 % 64), UInt8.ofNat (0x80 + c / 64 % 64), UInt8.ofNat (0x80 + c % 64)]
theorem apt (r : Int) : zn r = aff (if Utf8.valid r then r.toNat else Utf8.runeError) := by
 unfold zn Utf8.encode aff
 generalize (if Utf8.valid r then r.toNat else Utf8.runeError) = c
 dsimp only
 by_cases h1 : c < 0x80
 ·rw [if_pos h1, if_pos h1]
 ·rw [if_neg h1, if_neg h1]
  by_cases h2 : c < 0x800
  ·rw [if_pos h2, if_pos h2]
  ·rw [if_neg h2, if_neg h2]
   by_cases h3 : c < 0x10000
   ·rw [if_pos h3, if_pos h3]
   ·rw [if_neg h3, if_neg h3]
theorem aqe (c : Nat) : 1 ≤ (aff c).length ∧ (aff c).length ≤ 4 := by
 unfold aff
 split
 ·simp
 ·split
  ·simp
  ·split <;> simp
theorem anY (c : Int) : 1 ≤ (zn c).length ∧ (zn c).length ≤ 4 := by rw [apt]; exact aqe _
theorem va (r : Nat) (h : r < 55296 ∨ 57343 < r) (h' : r ≤ 1114111) : Utf8.valid (r : Int) = true := by
  unfold Utf8.valid
  rw [Bool.or_eq_true]
  rcases h with h | h
  · left; rw [Bool.and_eq_true]
    exact ⟨decide_eq_true (by omega), decide_eq_true (by omega)⟩
  · right; rw [Bool.and_eq_true]
    exact ⟨decide_eq_true (by omega), decide_eq_true (by omega)⟩
theorem vc (r : Nat) (h : 55296 ≤ r) (h' : r ≤ 57343) : Utf8.valid (r : Int) = false := by
  unfold Utf8.valid
  rw [Bool.or_eq_false_iff, Bool.and_eq_false_iff, Bool.and_eq_false_iff]
  exact ⟨.inr (decide_eq_false (by omega)), .inl (decide_eq_false (by omega))⟩
theorem aiE (r : Nat) (h : r < 55296 ∨ 57343 < r) (h' : r ≤ 1114111) : zn (r : Int) = aff r := by
 rw [apt, va r h h']
 rfl
theorem as8 (r : Nat) (h : r < 128) : zn (r : Int) = [UInt8.ofNat r] := by
  rw [aiE r (by omega) (by omega), aff, if_pos h]
theorem atz (r : Nat) (h : 128 ≤ r) (h' : r < 2048) : zn (r : Int) = [UInt8.ofNat (192 + r / 64), UInt8.ofNat (128 + r % 64)] := by
  rw [aiE r (by omega) (by omega), aff, if_neg (by omega), if_pos h']
theorem atq (r : Nat) (h : 2048 ≤ r) (h' : r < 65536) (hv : r < 55296 ∨ 57343 < r) : zn (r : Int) = [UInt8.ofNat (224 + r / 4096), UInt8.ofNat (128 + r / 64 % 64), UInt8.ofNat (128 + r % 64)] := by
  rw [aiE r hv (by omega), aff, if_neg (by omega), if_neg (by omega), if_pos h']
theorem atv (r : Nat) (h : 65536 ≤ r) (h' : r ≤ 1114111) : zn (r : Int) = [UInt8.ofNat (240 + r / 262144), UInt8.ofNat (128 + r / 4096 % 64), UInt8.ofNat (128 + r / 64 % 64), UInt8.ofNat (128 + r % 64)] := by
  rw [aiE r (by omega) h', aff, if_neg (by omega), if_neg (by omega), if_neg (by omega)]
theorem ati (r : Nat) (h : 55296 ≤ r) (h' : r ≤ 57343) : zn (r : Int) = [239, 191, 189] := by
 rw [apt, vc r h h']
 simp only [Bool.false_eq_true, if_false, Utf8.runeError, aff]
 rfl
theorem apX (r : Nat) (h : r ≤ 1114111) : zn (r : Int) = Lib.encodeRune (r : Int) := by
  unfold Lib.encodeRune Lib.encodeRuneZ
  by_cases h1 : r < 128
  · rw [if_pos (show (0 : Int) ≤ (r : Int) ∧ (r : Int) ≤ 127 by omega), as8 r h1]
    simp only [List.map_cons, List.map_nil, Int.toNat_natCast]
  · rw [if_neg (show ¬ ((0 : Int) ≤ (r : Int) ∧ (r : Int) ≤ 127) by omega)]
    by_cases h2 : r < 2048
    · rw [if_pos (show (128 : Int) ≤ (r : Int) ∧ (r : Int) ≤ 2047 by omega), atz r (by omega) h2]
      have a1 : (192 + (r : Int) / 64).toNat = 192 + r / 64 := by omega
      have a2 : (128 + (r : Int) % 64).toNat = 128 + r % 64 := by omega
      simp only [List.map_cons, List.map_nil, a1, a2]
    · rw [if_neg (show ¬ ((128 : Int) ≤ (r : Int) ∧ (r : Int) ≤ 2047) by omega)]
      by_cases hv : r < 55296 ∨ 57343 < r
      · by_cases h3 : r < 65536
        · rw [if_pos (show ((2048 : Int) ≤ (r : Int) ∧ (r : Int) < 55296) ∨ ((57343 : Int) < (r : Int) ∧ (r : Int) ≤ 65535) by omega), atq r (by omega) h3 hv]
          have a1 : (224 + (r : Int) / 4096).toNat = 224 + r / 4096 := by omega
          have a2 : (128 + (r : Int) / 64 % 64).toNat = 128 + r / 64 % 64 := by omega
          have a3 : (128 + (r : Int) % 64).toNat = 128 + r % 64 := by omega
          simp only [List.map_cons, List.map_nil, a1, a2, a3]
        · rw [if_neg (show ¬ (((2048 : Int) ≤ (r : Int) ∧ (r : Int) < 55296) ∨ ((57343 : Int) < (r : Int) ∧ (r : Int) ≤ 65535)) by omega), if_pos (show (65536 : Int) ≤ (r : Int) ∧ (r : Int) ≤ 1114111 by omega), atv r (by omega) h]
          have a1 : (240 + (r : Int) / 262144).toNat = 240 + r / 262144 := by omega
          have a2 : (128 + (r : Int) / 4096 % 64).toNat = 128 + r / 4096 % 64 := by omega
          have a3 : (128 + (r : Int) / 64 % 64).toNat = 128 + r / 64 % 64 := by omega
          have a4 : (128 + (r : Int) % 64).toNat = 128 + r % 64 := by omega
          simp only [List.map_cons, List.map_nil, a1, a2, a3, a4]
      · rw [if_neg (show ¬ (((2048 : Int) ≤ (r : Int) ∧ (r : Int) < 55296) ∨ ((57343 : Int) < (r : Int) ∧ (r : Int) ≤ 65535)) by omega), if_neg (show ¬ ((65536 : Int) ≤ (r : Int) ∧ (r : Int) ≤ 1114111) by omega), ati r (by omega) (by omega)]
        rfl
theorem ajK : ∀ (f : Nat) (s : Str), s.length ≤ f → (Lib.validD s = true → zN (rn f s) = s) ∧ (Lib.validD s = false → s.length < (zN (rn f s)).length)
  | 0, s, h => by
    have : s = [] := List.eq_nil_of_length_eq_zero (by omega)
    subst this
    exact ⟨fun _ => rfl, fun h => by rw [Lib.validD_nil] at h; cases h⟩
  | f + 1, s, h => by
    unfold rn
    by_cases hne : s = []
    · subst hne
      exact ⟨fun _ => by simp [zN], fun h => by rw [Lib.validD_nil] at h; cases h⟩
    · have hw := Lib.decodeL_width s
      have hl := Lib.decodeL_le s hne
      obtain ⟨ih1, ih2⟩ := ajK f (s.drop (Lib.decodeL s).2) (by simp; omega)
      have e : zN (((Lib.decodeL s).1 : Int) :: rn f (s.drop (Lib.decodeL s).2)) = zn ((Lib.decodeL s).1 : Int) ++ zN (rn f (s.drop (Lib.decodeL s).2)) := by simp [zN]
      rw [if_neg hne, e, Lib.validD_step s hne]
      by_cases hb : (Lib.decodeL s).1 = 65533 ∧ (Lib.decodeL s).2 = 1
      · rw [if_pos hb]
        refine ⟨fun h => (by cases h), fun _ => ?_⟩
        have e3 : (zn ((Lib.decodeL s).1 : Int)).length = 3 := by rw [hb.1]; rfl
        have e4 : (s.drop (Lib.decodeL s).2).length ≤ (zN (rn f (s.drop (Lib.decodeL s).2))).length := by
          cases hv : Lib.validD (s.drop (Lib.decodeL s).2) with
          | true => rw [ih1 hv]; exact Nat.le_refl _
          | false => exact Nat.le_of_lt (ih2 hv)
        rw [List.length_append, e3]
        rw [List.length_drop, hb.2] at e4
        rw [hb.2]
        omega
      · rw [if_neg hb]
        have e5 : zn ((Lib.decodeL s).1 : Int) = s.take (Lib.decodeL s).2 := by rw [apX _ (Lib.decodeL_rune s)]; exact Lib.encode_decode s hne hb
        refine ⟨fun hv => by rw [ih1 hv, e5, List.take_append_drop], fun hv => ?_⟩
        have := ih2 hv
        rw [List.length_append, e5, List.length_take]
        rw [List.length_drop] at this
        omega
theorem Wl {s : Str} (h : Lib.validD s = true) : zN (runes s) = s := by rw [abY]; exact (ajK _ s (Nat.le_refl _)).1 h
theorem Yw (b : ByteArray) : ∀ (n i : Nat) (acc : Array Value), (Conv.runesFrom b n i acc).toList.length = acc.toList.length + Lib.runeCountFrom b n i
 | 0, i, acc => by simp [Conv.runesFrom, Lib.runeCountFrom]
 | n + 1, i, acc => by
  unfold Conv.runesFrom Lib.runeCountFrom
  split
  ·rename_i h
   rw [Yw b n _ _]
   simp; omega
  ·rfl
theorem Kc (s : Str) : (runes s).length = agA s := by
 unfold runes agA Lib.runeCountL Lib.runeCount
 rw [List.length_map, Yw]
 simp [ByteArray.size]
end Go.Proofs.YtclohbgnaopjfaaDoor
namespace Go.Proofs.YtclohbgnaopjfaaDoor
set_option linter.unusedSimpArgs false
set_option linter.unusedVariables false
open Go
theorem apC : ∀ (l : List za) (last : Option za), (∀ x ∈ l, qK x = true) → jh l → (∀ x y, last = some x → l.head? = some y → vL x y = false) → xV last l = true
  | [], last, _, _, _ => aaD last
  | y :: l, last, hf, hj, hl => by
    rw [Q6, hf y (by simp)]
    have h2 : xV (some y) l = true := by
      refine apC l (some y) (fun x hx => hf x (by simp [hx])) ?_ ?_
      · cases l with
        | nil => trivial
        | cons z l => exact hj.2
      · intro x z hx hz
        cases hx
        cases l with
        | nil => cases hz
        | cons z' l => cases hz; exact hj.1
    rw [h2]
    cases last with
    | none => rfl
    | some x => simp [hl x y rfl rfl]
theorem alm {n : za} (h : qK n = true) (ht : isT n = false) : ∀ k ∈ n.Kids, qK k = true := by
  have key : ∀ (l : List za) (last : Option za), xV last l = true → ∀ k ∈ l, qK k = true := by
    intro l
    induction l with
    | nil => simp
    | cons y l ih =>
      intro last h k hk
      rw [Q6, Bool.and_eq_true, Bool.and_eq_true] at h
      rcases List.mem_cons.1 hk with rfl | hk
      · exact h.1.1
      · exact ih _ h.2 k hk
  rw [jS, if_neg (by simp [ht])] at h
  simp only [Bool.and_eq_true] at h
  exact key _ _ h.2
end Go.Proofs.YtclohbgnaopjfaaDoor
namespace Go.Proofs.YtclohbgnaopjfaaDoor
set_option linter.unusedSimpArgs false
set_option linter.unusedVariables false
open Go
theorem adM (s t : Str) (hne : s ≠ []) (hv : ¬ ((Lib.decodeL s).1 = 65533 ∧ (Lib.decodeL s).2 = 1)) : Lib.decodeL (s.take (Lib.decodeL s).2 ++ t) = Lib.decodeL s := by
  have hl : 0 < s.length := List.length_pos_iff.2 hne
  have hS := Lib.decodeL_N s
  rcases Lib.decodeN_shape s.length (s.getD 0 0).toNat (s.getD 1 0).toNat (s.getD 2 0).toNat (s.getD 3 0).toNat with ⟨h1, e⟩ | ⟨h1, h2, h3, h4, e⟩ | ⟨h1, h2, h3, h4, h5, h6, e⟩ | ⟨h1, h2, h3, h4, h5, h6, h7, e⟩ | e
  · rw [hS, e]
    simp only
    rw [Lib.takeA s hl, Lib.decodeL_N]
    simp only [List.cons_append, List.getD_cons_zero]
    unfold Lib.decodeN
    rw [if_pos h1]
  · rw [hS, e]
    simp only
    rw [Lib.takeB s h2, Lib.decodeL_N]
    simp only [List.cons_append, List.nil_append, List.getD_cons_zero, List.getD_cons_succ]
    unfold Lib.decodeN
    rw [if_neg (by omega), if_pos ⟨h1, by simp, h3⟩, if_pos (by omega)]
  · rw [hS, e]
    simp only
    rw [Lib.takeC s h2, Lib.decodeL_N]
    simp only [List.cons_append, List.nil_append, List.getD_cons_zero, List.getD_cons_succ]
    unfold Lib.decodeN
    rw [if_neg (by omega), if_neg (by omega), if_pos ⟨h1, ⟨by simp, h3⟩, by simp, h4⟩, if_pos ⟨by omega, by omega⟩]
  · rw [hS, e]
    simp only
    rw [Lib.takeD s h2, Lib.decodeL_N]
    simp only [List.cons_append, List.nil_append, List.getD_cons_zero, List.getD_cons_succ]
    unfold Lib.decodeN
    rw [if_neg (by omega), if_neg (by omega), if_neg (by omega), if_pos ⟨h1, ⟨by simp, h3⟩, ⟨by simp, h4⟩, by simp, h5⟩, if_pos ⟨by omega, by omega⟩]
  · rw [hS, e] at hv
    simp at hv
def VR (c : Int) : Prop := (∀ t : Str, runes (zn c ++ t) = c :: runes t) ∧ ∀ t : Str, Lib.validD (zn c ++ t) = Lib.validD t
theorem akF : ∀ (f g : Nat) (s : Str), s.length ≤ f → s.length ≤ g → rn f s = rn g s
  | 0, 0, s, _, _ => rfl
  | 0, g + 1, s, hf, _ => by
    have : s = [] := List.eq_nil_of_length_eq_zero (by omega)
    subst this
    simp [rn]
  | f + 1, 0, s, _, hg => by
    have : s = [] := List.eq_nil_of_length_eq_zero (by omega)
    subst this
    simp [rn]
  | f + 1, g + 1, s, hf, hg => by
    unfold rn
    by_cases h : s = []
    · simp [h]
    · have h1 := Lib.decodeL_width s
      have h2 := Lib.decodeL_le s h
      rw [if_neg h, if_neg h, akF f g _ (by simp; omega) (by simp; omega)]
theorem Jb : runes [] = [] := by rw [abY]; rfl
theorem aaM (s : Str) (hne : s ≠ []) : runes s = ((Lib.decodeL s).1 : Int) :: runes (s.drop (Lib.decodeL s).2) := by
  rw [abY, abY]
  have h1 := Lib.decodeL_width s
  have h2 := Lib.decodeL_le s hne
  have hl : 0 < s.length := List.length_pos_iff.2 hne
  obtain ⟨n, hn⟩ : ∃ n, s.length = n + 1 := ⟨s.length - 1, by omega⟩
  rw [hn, rn, if_neg hne, akF n _ _ (by simp; omega) (Nat.le_refl _)]
theorem aqZ (s : Str) (hne : s ≠ []) (hv : ¬ ((Lib.decodeL s).1 = 65533 ∧ (Lib.decodeL s).2 = 1)) : VR ((Lib.decodeL s).1 : Int) ∧ zn ((Lib.decodeL s).1 : Int) = s.take (Lib.decodeL s).2 := by
  have e5 : zn ((Lib.decodeL s).1 : Int) = s.take (Lib.decodeL s).2 := by rw [apX _ (Lib.decodeL_rune s)]; exact Lib.encode_decode s hne hv
  have h1 := Lib.decodeL_width s
  have h2 := Lib.decodeL_le s hne
  have hlen : (s.take (Lib.decodeL s).2).length = (Lib.decodeL s).2 := by rw [List.length_take]; omega
  have hdr : ∀ t : Str, (s.take (Lib.decodeL s).2 ++ t).drop (Lib.decodeL s).2 = t := by
    intro t
    rw [List.drop_append_of_le_length (by omega), List.drop_of_length_le (by omega)]
    rfl
  refine ⟨⟨fun t => ?_, fun t => ?_⟩, e5⟩
  · have hne' : zn ((Lib.decodeL s).1 : Int) ++ t ≠ [] := by
      intro h
      have := congrArg List.length h
      rw [List.length_append, e5, hlen, List.length_nil] at this
      omega
    rw [aaM _ hne', e5, adM s t hne hv, hdr]
  · have hne' : zn ((Lib.decodeL s).1 : Int) ++ t ≠ [] := by
      intro h
      have := congrArg List.length h
      rw [List.length_append, e5, hlen, List.length_nil] at this
      omega
    rw [Lib.validD_step _ hne', e5, adM s t hne hv, if_neg hv, hdr]
theorem arV : ∀ (f : Nat) (s : Str), s.length ≤ f → Lib.validD s = true → ∀ c ∈ runes s, VR c
  | 0, s, h, _, c, hc => by
    have : s = [] := List.eq_nil_of_length_eq_zero (by omega)
    subst this
    rw [Jb] at hc
    cases hc
  | f + 1, s, h, hv, c, hc => by
    by_cases hne : s = []
    · subst hne
      rw [Jb] at hc
      cases hc
    · rw [Lib.validD_step s hne] at hv
      by_cases hb : (Lib.decodeL s).1 = 65533 ∧ (Lib.decodeL s).2 = 1
      · rw [if_pos hb] at hv; cases hv
      · rw [if_neg hb] at hv
        have h1 := Lib.decodeL_width s
        rw [aaM s hne] at hc
        rcases List.mem_cons.1 hc with rfl | hc
        · exact (aqZ s hne hb).1
        · exact arV f (s.drop (Lib.decodeL s).2) (by simp; omega) hv c hc
theorem akR {s : Str} (h : Lib.validD s = true) : ∀ c ∈ runes s, VR c := arV s.length s (Nat.le_refl _) h
theorem QV (c : Int) (l : List Int) : zN (c :: l) = zn c ++ zN l := by simp [zN]
theorem abj (a b : List Int) : zN (a ++ b) = zN a ++ zN b := by simp [zN]
theorem acG : ∀ (l : List Int) (t : Str), (∀ c ∈ l, VR c) → runes (zN l ++ t) = l ++ runes t ∧ Lib.validD (zN l ++ t) = Lib.validD t
 | [], t, _ => by simp [zN]
 | c :: l, t, h => by
  obtain ⟨h1, h2⟩ := acG l t fun x hx => h x (by simp [hx])
  obtain ⟨h3, h4⟩ := h c (by simp)
  rw [QV, List.append_assoc, h3, h1, h4, h2]
  simp
theorem ai3 {l : List Int} (h : ∀ c ∈ l, VR c) : runes (zN l) = l ∧ Lib.validD (zN l) = true := by
 have := acG l [] h
 simpa [Jb, Lib.validD_nil] using this
theorem adl {s : Str} (t : Str) (h : Lib.validD s = true) : runes (s ++ t) = runes s ++ runes t ∧ Lib.validD (s ++ t) = Lib.validD t := by
 have := acG (runes s) t (akR h)
 rwa [Wl h] at this
end Go.Proofs.YtclohbgnaopjfaaDoor
namespace Go.Proofs.YtclohbgnaopjfaaDoor
set_option linter.unusedSimpArgs false
set_option linter.unusedVariables false
open Go
inductive It where
 | sgn (c : Int) (m : List Str)
 | nod (n : za)
def itN (n : za) : List It := if isT n = true then (runes n.Text).map (fun c => It.sgn c n.Marks) else [.nod n]
def items : List za → List It
 | [] => []
 | n :: l => itN n ++ items l
theorem acY (a b : List za) : items (a ++ b) = items a ++ items b := by
 induction a with
 | nil => rfl
 | cons n a ih => simp only [List.cons_append, items, ih, List.append_assoc]
def anh : It → Nat
 | .sgn _ _ => 1
 | .nod n => kL n
def szI : List It → Nat
 | [] => 0
 | i :: l => anh i + szI l
theorem arh (a b : List It) : szI (a ++ b) = szI a + szI b := by
 induction a with
 | nil => simp [szI]
 | cons n a ih => simp only [List.cons_append, szI, ih]; omega
theorem aqz (cs : List Int) (m : List Str) : szI (cs.map fun c => It.sgn c m) = cs.length := by
 induction cs with
 | nil => rfl
 | cons c cs ih => simp only [List.map_cons, szI, anh, ih, List.length_cons]; omega
theorem aqx (n : za) : szI (itN n) = kL n := by
 unfold itN
 rw [xu]
 cases h : isT n with
 | true => simp only [if_true]; rw [aqz, Kc]
 | false => simp only [Bool.false_eq_true, if_false, szI, anh]; rw [xu, h]; simp
theorem anK (l : List za) : szI (items l) = qi l := by
 induction l with
 | nil => rfl
 | cons n l ih => simp only [items, qi, arh, aqx, ih]
theorem ajN : ∀ i : It, (∀ n, i = .nod n → isT n = false) → 1 ≤ anh i
 | .sgn _ _, _ => Nat.le_refl _
 | .nod n, h => by
  have := h n rfl
  simp only [anh]
  rw [xu, this]
  simp
  omega
def Gd (n : za) : Prop := isT n = true → Lib.validD n.Text = true ∧ n.zu = [] ∧ n.Kids = []
theorem Gd.plain {n : za} (h : Gd n) : Plain n := fun ht => (h ht).2
theorem XI {n : za} (h : isT n = true) : n.Kind = jf := by simpa [isT] using h
abbrev tN (t : Str) (m : List Str) : za := ⟨jf, t, m, [], []⟩
theorem ase {n : za} (h : Gd n) (ht : isT n = true) : n = tN n.Text n.Marks := by
 have h1 := XI ht
 obtain ⟨_, h2, h3⟩ := h ht
 cases n
 simp_all
def aqN : It → za
 | .sgn c m => tN (zn c) m
 | .nod n => n
def canon (l : List It) : List za := Wz (l.map aqN)
theorem ahV (m : List Str) : ∀ (cs : List Int) (o : List za), ((cs.map fun c => It.sgn c m).map aqN).foldl joinStep o = joinStep o (tN (zN cs) m)
 | [], o => by
  have : joinStep o (tN (zN []) m) = o := by unfold joinStep; rfl
  rw [this]
  rfl
 | c :: cs, o => by
  rw [List.map_cons, List.map_cons, List.foldl_cons, ahV m cs, QV]
  exact aii o (tN (zn c) m) (tN (zN cs) m) rfl rfl rfl rfl rfl
theorem aoy {n : za} (h : Gd n) (o : List za) : ((itN n).map aqN).foldl joinStep o = joinStep o n := by
 unfold itN
 cases ht : isT n with
 | true =>
  simp only [if_true]
  rw [ahV, Wl (h ht).1, ← ase h ht]
 | false => rfl
theorem aeS : ∀ (l o : List za), (∀ x ∈ l, Gd x) → ((items l).map aqN).foldl joinStep o = l.foldl joinStep o
  | [], o, _ => rfl
  | n :: l, o, h => by
    rw [items, List.map_append, List.foldl_append, aoy (h n (by simp)), aeS l _ fun x hx => h x (by simp [hx])]
    rfl
theorem alP {l : List za} (h : ∀ x ∈ l, Gd x) : Wz l = canon (items l) := (aeS l [] h).symm
theorem afN (o : List za) (n : za) (ho : ∀ x ∈ o, Gd x) (hn : Gd n) : items (joinStep o n) = items o ++ itN n ∧ ∀ x ∈ joinStep o n, Gd x := by
  have e1 : ∀ x, items [x] = itN x := fun x => by simp [items]
  have plain : items (o ++ [n]) = items o ++ itN n ∧ ∀ x ∈ o ++ [n], Gd x := by
    refine ⟨by rw [acY, e1], fun x hx => ?_⟩
    rcases List.mem_append.1 hx with hx | hx
    · exact ho x hx
    · simp at hx; rw [hx]; exact hn
  by_cases hc : (isT n && n.Text == []) = true
  · have e : joinStep o n = o := by unfold joinStep; rw [if_pos hc]
    rw [e]
    simp only [Bool.and_eq_true, beq_iff_eq] at hc
    refine ⟨?_, ho⟩
    unfold itN
    rw [if_pos hc.1, hc.2, Jb]
    simp
  · rcases wP o with rfl | ⟨o, x, rfl⟩
    · rw [kT, if_neg hc]
      simpa using plain
    · rw [wz, if_neg hc]
      by_cases hd : (isT n && isT x && decide (x.Marks = n.Marks)) = true
      · rw [if_pos hd]
        simp only [Bool.and_eq_true, decide_eq_true_eq] at hd
        obtain ⟨⟨h1, h2⟩, h3⟩ := hd
        have hx := ho x (by simp) h2
        have hn' := hn h1
        have ht : isT ({ n with Text := x.Text ++ n.Text } : za) = true := h1
        obtain ⟨r1, r2⟩ := adl n.Text hx.1
        refine ⟨?_, fun y hy => ?_⟩
        · rw [acY, acY, e1, e1, List.append_assoc]
          congr 1
          unfold itN
          rw [if_pos ht, if_pos h1, if_pos h2]
          simp only [r1, List.map_append, h3]
        · rcases List.mem_append.1 hy with hy | hy
          · exact ho y (by simp [hy])
          · simp only [List.mem_singleton] at hy
            rw [hy]
            exact fun _ => ⟨by simp only [r2]; exact hn'.1, hn'.2⟩
      · rw [if_neg hd]
        simpa [List.append_assoc] using plain
def Jnd (l : List za) : Prop := jh l ∧ ∀ x ∈ l, isT x = true → x.Text ≠ []
theorem ajA {a : za} {l : List za} (h : jh (a :: l)) : jh l := by
 cases l with
 | nil => trivial
 | cons b l => exact h.2
theorem amE : ∀ (o : List za) (x n : za) (l : List za), jh (o ++ x :: n :: l) → vL x n = false
 | [], x, n, l, h => h.1
 | y :: o, x, n, l, h => amE o x n l (ajA (a := y) (l := o ++ x :: n :: l) h)
theorem ah0 : ∀ (l o : List za), jh (o ++ l) → (∀ x ∈ l, isT x = true → x.Text ≠ []) → l.foldl joinStep o = o ++ l
  | [], o, _, _ => by simp
  | n :: l, o, h, hl => by
    have hn := hl n (by simp)
    have hc : ¬ (isT n && n.Text == []) = true := by
      simp only [Bool.and_eq_true, beq_iff_eq]
      rintro ⟨h1, h2⟩
      exact hn h1 h2
    have e : joinStep o n = o ++ [n] := by
      rcases wP o with rfl | ⟨o, x, rfl⟩
      · rw [kT, if_neg hc]; rfl
      · rw [wz, if_neg hc]
        have ha := amE o x n l (by simpa using h)
        unfold vL at ha
        have : (isT n && isT x && decide (x.Marks = n.Marks)) = false := by rw [Bool.and_comm (isT n)]; exact ha
        rw [this]
        simp
    rw [List.foldl_cons, e, ah0 l _ (by simpa using h) fun x hx => hl x (by simp [hx])]
    simp
theorem Jnd.join {l : List za} (h : Jnd l) : Wz l = l := by
 have := ah0 l [] h.1 h.2
 simpa [Wz] using this
theorem Jnd.canon {l : List za} (h : Jnd l) (hg : ∀ x ∈ l, Gd x) : l = canon (items l) := by
 rw [← alP hg, h.join]
theorem ars {a b : List za} (ha : Jnd a) (hb : Jnd b) (ga : ∀ x ∈ a, Gd x) (gb : ∀ x ∈ b, Gd x) (h : items a = items b) : a = b := by
 rw [ha.canon ga, hb.canon gb, h]
theorem ahu : ∀ (a b : List za), jh (a ++ b) → jh a
 | [], _, _ => trivial
 | [x], _, _ => trivial
 | x :: y :: a, b, h => ⟨h.1, ahu (y :: a) b h.2⟩
theorem ahg : ∀ (a b : List za), jh (a ++ b) → jh b
 | [], _, h => h
 | x :: a, b, h => ahg a b (ajA (a := x) (l := a ++ b) h)
theorem ajL : ∀ (a : List za) (x y : za), jh (a ++ [x]) → (∀ z, vL z y = vL z x) → jh (a ++ [y])
 | [], _, _, _, _ => trivial
 | [z], x, y, h, e => ⟨by rw [e]; exact h.1, trivial⟩
 | z :: w :: a, x, y, h, e => ⟨h.1, ajL (w :: a) x y h.2 e⟩
end Go.Proofs.YtclohbgnaopjfaaDoor
namespace Go.Proofs.YtclohbgnaopjfaaDoor
set_option linter.unusedSimpArgs false
set_option linter.unusedVariables false
open Go
theorem am4 {α : Type} (o : List α) (x y : α) : wr (o ++ [x]) (o.length : Int) y = some (o ++ [y]) := by
  unfold wr
  rw [if_pos (by simp; omega)]
  simp
theorem akn : ∀ (l : List za) (i : Int) (o : List za), zU o + zU l ≤ 1099511627776 → wE l i o = some (l.foldl joinStep o)
  | [], i, o, _ => by simp [wE]
  | n :: l, i, o, hw => by
    simp only [zU] at hw
    have hjw := Xt o n
    have ih := akn l (i + 1) (joinStep o n) (by omega)
    have hol := kM o
    have eapp : app 104 o [n] = some (o ++ [n]) := jd (by simp; omega)
    rw [wE, List.foldl_cons, QM]
    simp only [Option.bind_some]
    rcases wP o with rfl | ⟨o, x, rfl⟩
    · rw [kT] at ih ⊢
      have hneg : decide (w64 ((([] : List za).length : Int) - 1) ≥ 0) = false := by rw [kG (by simp)]; simp
      by_cases ht : isT n = true
      · by_cases he : n.Text = []
        · simp only [ht, he, Bool.true_and, beq_self_eq_true, if_true] at ih ⊢
          exact ih
        · have he' : (n.Text == []) = false := by simp [he]
          simp only [ht, he', Bool.true_and, Bool.false_eq_true, if_false] at ih ⊢
          simp only [if_true, hneg, Bool.false_eq_true, if_false, eapp, Option.bind_some]
          exact ih
      · have ht2 : isT n = false := by simpa using ht
        simp only [ht2, Bool.false_and, Bool.false_eq_true, if_false] at ih ⊢
        simp only [hneg, Bool.false_eq_true, if_false, eapp, Option.bind_some]
        exact ih
    · rw [wz] at ih ⊢
      have hw1 : w64 (((o ++ [x]).length : Int) - 1) = (o.length : Int) := by
        rw [kG (by simp at hol ⊢; omega)]
        simp
      have hx : rd (o ++ [x]) (o.length : Int) = some x := Jf o [] x
      have hpos : decide ((o.length : Int) ≥ 0) = true := by simp
      have hwx : nwt x ≤ zU (o ++ [x]) := Z7 (by simp)
      have hx1 := wQ x
      have hn1 := wQ n
      have hxm := aeE x.Marks
      have hal : vL x n = (isT n && isT x && decide (x.Marks = n.Marks)) := by unfold vL; rw [Bool.and_comm (isT x)]
      rw [hw1, hx]
      simp only [hpos, if_true, Option.bind_some]
      rw [akz x n (by omega), am4]
      simp only [Option.bind_some, hal]
      by_cases ht : isT n = true
      · by_cases he : n.Text = []
        · simp only [ht, he, Bool.true_and, beq_self_eq_true, if_true] at ih ⊢
          exact ih
        · have he' : (n.Text == []) = false := by simp [he]
          simp only [ht, he', Bool.true_and, Bool.false_eq_true, if_false, if_true] at ih ⊢
          cases hc : (isT x && decide (x.Marks = n.Marks)) with
          | true =>
            simp only [hc, if_true] at ih ⊢
            rw [kK (by omega)]
            exact ih
          | false =>
            simp only [hc, Bool.false_eq_true, if_false] at ih ⊢
            rw [eapp]
            simp only [Option.bind_some, List.append_assoc, List.cons_append, List.nil_append]
            exact ih
      · have ht2 : isT n = false := by simpa using ht
        simp only [ht2, Bool.false_and, Bool.false_eq_true, if_false] at ih ⊢
        rw [eapp]
        simp only [Option.bind_some, List.append_assoc, List.cons_append, List.nil_append]
        exact ih
theorem aqr (l : List za) (h : zU l ≤ 1099511627776) : QA l = some (Wz l) := by
  have hl := kM l
  unfold QA
  rw [kK (by omega), akn l 0 [] (by simpa [zU] using h)]
  rfl
end Go.Proofs.YtclohbgnaopjfaaDoor
namespace Go.Proofs.YtclohbgnaopjfaaDoor
set_option linter.unusedSimpArgs false
set_option linter.unusedVariables false
open Go
def up (q : List Nat) : List Int := q.map fun (i : Nat) => (i : Int)
theorem asj (q : List Nat) : (up q).length = q.length := by simp [up]
inductive At : za → List Nat → za → Nat → Prop
 | nil (n : za) : At n [] n 0
 | cons (n : za) (i : Nat) (k : za) (q : List Nat) (m : za) (a : Nat) (hi : n.Kids[i]? = some k) (hn : isT n = false) (hk : isT k = false) (h : At k q m a) : At n (i :: q) m (qi (n.Kids.take i) + 1 + a)
theorem X9 {l : List za} {i : Nat} {k : za} (h : l[i]? = some k) : l = l.take i ++ k :: l.drop (i + 1) := by
 obtain ⟨hi, rfl⟩ := List.getElem?_eq_some_iff.1 h
 simp
theorem an4 {l : List za} {i : Nat} {k : za} (h : l[i]? = some k) : qi l = qi (l.take i) + kL k + qi (l.drop (i + 1)) := by
 conv => lhs; rw [X9 h]
 rw [ali, qi]; omega
theorem aqQ {l : List za} {i : Nat} {k : za} (h : l[i]? = some k) : zU l = zU (l.take i) + nwt k + zU (l.drop (i + 1)) := by
 conv => lhs; rw [X9 h]
 rw [ZM, zU]; omega
theorem At.sizes {n : za} {q m a} (h : At n q m a) : a + qi m.Kids ≤ qi n.Kids := by
 induction h with
 | nil => omega
 | cons n i k q m a hi hn hk h ih =>
  have h1 := an4 hi
  have h2 := Ym hk
  omega
theorem At.len {n : za} {q m a} (h : At n q m a) : q.length ≤ a := by
 induction h with
 | nil => simp
 | cons n i k q m a hi hn hk h ih => simp only [List.length_cons]; omega
theorem At.wt {n : za} {q m a} (h : At n q m a) : nwt m ≤ nwt n := by
 induction h with
 | nil => omega
 | cons n i k q m a hi hn hk h ih =>
  have h1 := aqQ hi
  have h2 := acO n
  omega
theorem At.dep {n : za} {q m a} (h : At n q m a) : Wt m ≤ Wt n := by
 induction h with
 | nil => omega
 | cons n i k q m a hi hn hk h ih =>
  have h1 := Zc (List.mem_of_getElem? hi)
  have h2 := ZU n
  omega
end Go.Proofs.YtclohbgnaopjfaaDoor
namespace Go.Proofs.YtclohbgnaopjfaaDoor
set_option linter.unusedSimpArgs false
set_option linter.unusedVariables false
open Go
def apT (n : za) (s : qP) (pos : Nat) : Prop :=
 ∃ q m a idx off, s = ⟨up q, ((idx : Nat) : Int), ((off : Nat) : Int)⟩ ∧ At n q m a ∧ isT m = false ∧ idx ≤ m.Kids.length ∧ a + qi (m.Kids.take idx) + off = pos ∧ (∀ k, m.Kids[idx]? = some k → off < kL k ∧ (0 < off → isT k = true)) ∧ (idx = m.Kids.length → off = 0)
end Go.Proofs.YtclohbgnaopjfaaDoor
namespace Go.Proofs.YtclohbgnaopjfaaDoor
set_option linter.unusedSimpArgs false
set_option linter.unusedVariables false
open Go
end Go.Proofs.YtclohbgnaopjfaaDoor
namespace Go.Proofs.YtclohbgnaopjfaaDoor
set_option linter.unusedSimpArgs false
set_option linter.unusedVariables false
open Go
structure yJ (l : List za) : Prop where
 form : ∀ x ∈ l, qK x = true
 adj : jh l
theorem xw {n : za} (h : qK n = true) (ht : isT n = true) : n.Text ≠ [] ∧ Lib.validD n.Text = true ∧ jm n.Marks = true ∧ n.zu = [] ∧ n.Kids = [] := by
  rw [jS, if_pos ht] at h
  simp only [Bool.and_eq_true, decide_eq_true_eq] at h
  obtain ⟨⟨⟨h1, h2⟩, h3⟩, h4⟩ := h
  exact ⟨h1, h2, h3, List.eq_nil_of_length_eq_zero (by omega), List.eq_nil_of_length_eq_zero (by omega)⟩
theorem amy {t : Str} {m : List Str} (h1 : t ≠ []) (h2 : Lib.validD t = true) (h3 : jm m = true) : qK (tN t m) = true := by
 have ht : isT (tN t m) = true := rfl
 rw [jS, if_pos ht]
 simp [h1, h2, h3]
theorem ana {n : za} (h : qK n = true) : Gd n := fun ht => by
 obtain ⟨_, h2, _, h4, h5⟩ := xw h ht
 exact ⟨h2, h4, h5⟩
theorem ajq {s : Str} (h : s ≠ []) : 1 ≤ agA s := by
 rw [← Kc, aaM s h]
 simp
theorem size_pos {n : za} (h : qK n = true) : 1 ≤ kL n := by
 rw [xu]
 cases ht : isT n with
 | true => simpa using ajq (xw h ht).1
 | false => simp; omega
theorem yJ.gd {l : List za} (h : yJ l) : ∀ x ∈ l, Gd x := fun x hx => ana (h.form x hx)
theorem yJ.jnd {l : List za} (h : yJ l) : Jnd l := ⟨h.adj, fun x hx ht => (xw (h.form x hx) ht).1⟩
theorem aj2 {a b : List za} (ha : yJ a) (hb : yJ b) (h : items a = items b) : a = b := ars ha.jnd hb.jnd ha.gd hb.gd h
theorem yJ.nil : yJ [] := ⟨by simp, trivial⟩
theorem yJ.left {a b : List za} (h : yJ (a ++ b)) : yJ a := ⟨fun x hx => h.form x (by simp [hx]), ahu a b h.adj⟩
theorem yJ.right {a b : List za} (h : yJ (a ++ b)) : yJ b := ⟨fun x hx => h.form x (by simp [hx]), ahg a b h.adj⟩
theorem agG (o : List za) (n : za) (h : yJ o) (hn : qK n = true) : yJ (joinStep o n) := by
  have hc : ¬ (isT n && n.Text == []) = true := by
    simp only [Bool.and_eq_true, beq_iff_eq]
    rintro ⟨h1, h2⟩
    exact (xw hn h1).1 h2
  rcases wP o with rfl | ⟨o, x, rfl⟩
  · rw [kT, if_neg hc]
    exact ⟨fun y hy => by simp at hy; rw [hy]; exact hn, trivial⟩
  · rw [wz, if_neg hc]
    have hx := h.form x (by simp)
    split
    · rename_i hd
      simp only [Bool.and_eq_true, decide_eq_true_eq] at hd
      obtain ⟨⟨h1, h2⟩, h3⟩ := hd
      obtain ⟨a1, a2, a3, a4, a5⟩ := xw hx h2
      obtain ⟨b1, b2, b3, b4, b5⟩ := xw hn h1
      have e : ({ n with Text := x.Text ++ n.Text } : za) = tN (x.Text ++ n.Text) n.Marks := by
        have := XI h1
        cases n
        simp_all
      have ef : qK ({ n with Text := x.Text ++ n.Text } : za) = true := by
        rw [e]
        refine amy (by simp [a1]) ?_ b3
        rw [(adl n.Text a2).2]
        exact b2
      refine ⟨fun y hy => ?_, ?_⟩
      · rcases List.mem_append.1 hy with hy | hy
        · exact h.form y (by simp [hy])
        · simp only [List.mem_singleton] at hy; rw [hy]; exact ef
      · refine ajL o x _ h.adj fun z => ?_
        unfold vL
        have e1 : isT ({ n with Text := x.Text ++ n.Text } : za) = true := h1
        rw [e1, h2]
        simp only [h3]
    · rename_i hd
      refine ⟨fun y hy => ?_, ?_⟩
      · have hy' : y ∈ o ++ [x] ∨ y = n := by simpa [or_assoc] using hy
        rcases hy' with hy | rfl
        · exact h.form y hy
        · exact hn
      · have ha : vL x n = false := by
          unfold vL
          rw [Bool.and_comm (isT x)]
          simpa using hd
        have := amt o x n h.adj ha
        simpa using this
theorem yJ.join {l : List za} (h : yJ l) : Wz l = l := h.jnd.join
theorem aqh : ∀ (l : List za) (last : Option za), xV last l = true → yJ l ∧ ∀ x y, last = some x → l.head? = some y → vL x y = false
 | [], last, _ => ⟨.nil, by simp⟩
 | y :: l, last, h => by
  rw [Q6, Bool.and_eq_true, Bool.and_eq_true] at h
  obtain ⟨⟨h1, h2⟩, h3⟩ := h
  obtain ⟨h4, h5⟩ := aqh l (some y) h3
  refine ⟨⟨fun x hx => ?_, ?_⟩, ?_⟩
  ·rcases List.mem_cons.1 hx with rfl | hx
   ·exact h1
   ·exact h4.form x hx
  ·cases l with
   | nil => trivial
   | cons z l => exact ⟨h5 y z rfl rfl, h4.adj⟩
  ·rintro x y' rfl hy
   cases hy
   simpa using h2
theorem ar3 {l : List za} (h : yJ l) : xV none l = true := apC l none h.form h.adj fun _ _ hx => by cases hx
theorem Q4 {n : za} (h : qK n = true) (ht : isT n = false) : yJ n.Kids := by
  rw [jS, if_neg (by simp [ht])] at h
  simp only [Bool.and_eq_true] at h
  exact (aqh _ _ h.2).1
theorem ahm {n : za} (h : qK n = true) (ht : isT n = false) {l : List za} (hl : yJ l) : qK ({ n with Kids := l } : za) = true := by
  have ht' : isT ({ n with Kids := l } : za) = false := ht
  rw [jS, if_neg (by simp [ht])] at h
  rw [jS, if_neg (by simp [ht'])]
  simp only [Bool.and_eq_true] at h ⊢
  exact ⟨h.1, ar3 hl⟩
end Go.Proofs.YtclohbgnaopjfaaDoor
namespace Go.Proofs.YtclohbgnaopjfaaDoor
set_option linter.unusedSimpArgs false
set_option linter.unusedVariables false
open Go
inductive Tk where
 | sgn (c : Int) (m : List Str)
 | opn (k : Str) (a : List zg)
 | cls
mutual
def tkN : za → List Tk
 | ⟨k, t, m, a, ks⟩ => if (k == jf) = true then (runes t).map (fun c => Tk.sgn c m) else Tk.opn k a :: (tkL ks ++ [Tk.cls])
def tkL : List za → List Tk
 | [] => []
 | n :: l => tkN n ++ tkL l
end
theorem jU (n : za) : tkN n = if isT n = true then (runes n.Text).map (fun c => Tk.sgn c n.Marks) else Tk.opn n.Kind n.zu :: (tkL n.Kids ++ [Tk.cls]) := by cases n; simp only [tkN, isT]; rfl
def agp : It → List Tk
 | .sgn c m => [.sgn c m]
 | .nod n => tkN n
def tkI (l : List It) : List Tk := l.flatMap agp
theorem XG (i : It) (l : List It) : tkI (i :: l) = agp i ++ tkI l := rfl
theorem amk (a b : List It) : tkI (a ++ b) = tkI a ++ tkI b := by simp [tkI]
theorem amG (a b : List za) : tkL (a ++ b) = tkL a ++ tkL b := by
 induction a with
 | nil => simp [tkL]
 | cons n a ih => simp only [List.cons_append, tkL, ih, List.append_assoc]
theorem apf (m : List Str) (cs : List Int) : tkI (cs.map fun c => It.sgn c m) = cs.map fun c => Tk.sgn c m := by
 induction cs with
 | nil => rfl
 | cons c cs ih => rw [List.map_cons, XG, ih]; rfl
theorem amx (n : za) : tkI (itN n) = tkN n := by
 rw [jU]
 unfold itN
 cases h : isT n with
 | true => simp only [if_true]; exact apf _ _
 | false =>
  simp only [Bool.false_eq_true, if_false]
  have : tkI [It.nod n] = tkN n := by simp [tkI, agp]
  rw [this, jU, h]
  simp
theorem Ke (l : List za) : tkI (items l) = tkL l := by
 induction l with
 | nil => rfl
 | cons n l ih => rw [items, amk, amx, ih, tkL]
mutual
theorem amK : ∀ n : za, (tkN n).length = kL n
 | ⟨k, t, m, a, ks⟩ => by
  rw [jU, xu]
  cases h : isT (⟨k, t, m, a, ks⟩ : za) with
  | true => simp [Kc]
  | false =>
   have := aeI ks
   simp; omega
theorem aeI : ∀ l : List za, (tkL l).length = qi l
 | [] => rfl
 | n :: l => by
  have h1 := amK n
  have h2 := aeI l
  simp only [tkL, qi, List.length_append]; omega
end
def FI (l : List It) : Prop := ∀ n, It.nod n ∈ l → isT n = false ∧ qK n = true
theorem abg {l : List za} (h : ∀ x ∈ l, qK x = true) : FI (items l) := by
  induction l with
  | nil => intro n hn; cases hn
  | cons y l ih =>
    intro n hn
    rcases List.mem_append.1 hn with hn | hn
    · unfold itN at hn
      cases ht : isT y with
      | true => rw [ht] at hn; simp at hn
      | false =>
        rw [ht] at hn
        simp at hn
        subst hn
        exact ⟨ht, h n (by simp)⟩
    · exact ih (fun x hx => h x (by simp [hx])) n hn
def atA : List Tk → Prop
 | [] => True
 | .cls :: _ => True
 | _ => False
theorem aag {a b : za} (ha : qK a = true) (hb : qK b = true) (ta : isT a = false) (tb : isT b = false) (hk : a.Kind = b.Kind) (hat : a.zu = b.zu) (hks : a.Kids = b.Kids) : a = b := by
  rw [jS, if_neg (by simp [ta])] at ha
  rw [jS, if_neg (by simp [tb])] at hb
  simp only [Bool.and_eq_true, decide_eq_true_eq] at ha hb
  cases a; cases b
  simp_all
theorem ajn : ∀ (f : Nat) (X Y : List It) (R S : List Tk), szI X ≤ f → FI X → FI Y → atA R → atA S → tkI X ++ R = tkI Y ++ S → X = Y ∧ R = S
  | f, [], [], R, S, _, _, _, _, _, h => ⟨rfl, h⟩
  | f, [], j :: Y, R, S, _, _, fy, hR, _, h => by
    exfalso
    rw [XG] at h
    cases j with
    | sgn c m =>
      simp only [agp, tkI, List.flatMap_nil, List.nil_append, List.cons_append] at h
      rw [h] at hR
      exact hR
    | nod n =>
      have := (fy n (by simp)).1
      simp only [agp, tkI, List.flatMap_nil, List.nil_append] at h
      rw [jU, this] at h
      simp only [Bool.false_eq_true, if_false, List.cons_append] at h
      rw [h] at hR
      exact hR
  | f, i :: X, [], R, S, _, fx, _, _, hS, h => by
    exfalso
    rw [XG] at h
    cases i with
    | sgn c m =>
      simp only [agp, tkI, List.flatMap_nil, List.nil_append, List.cons_append] at h
      rw [← h] at hS
      exact hS
    | nod n =>
      have := (fx n (by simp)).1
      simp only [agp, tkI, List.flatMap_nil, List.nil_append] at h
      rw [jU, this] at h
      simp only [Bool.false_eq_true, if_false, List.cons_append] at h
      rw [← h] at hS
      exact hS
  | 0, i :: X, j :: Y, R, S, hf, fx, _, _, _, h => by
    exfalso
    have := ajN i (by
      intro n hn
      subst hn
      exact (fx n (by simp)).1)
    simp only [szI] at hf
    omega
  | f + 1, i :: X, j :: Y, R, S, hf, fx, fy, hR, hS, h => by
    have hp := ajN i (by
      intro n hn
      subst hn
      exact (fx n (by simp)).1)
    simp only [szI] at hf
    have fx' : FI X := fun n hn => fx n (by simp [hn])
    have fy' : FI Y := fun n hn => fy n (by simp [hn])
    rw [XG, XG] at h
    cases i with
    | sgn c m =>
      cases j with
      | sgn c' m' =>
        simp only [agp, List.cons_append, List.nil_append, List.cons.injEq, Tk.sgn.injEq] at h
        obtain ⟨⟨rfl, rfl⟩, h⟩ := h
        obtain ⟨rfl, h2⟩ := ajn f X Y R S (by omega) fx' fy' hR hS h
        exact ⟨rfl, h2⟩
      | nod n =>
        exfalso
        have := (fy n (by simp)).1
        simp only [agp] at h
        rw [jU, this] at h
        simp at h
    | nod n =>
      obtain ⟨tn, fn⟩ := fx n (by simp)
      cases j with
      | sgn c m =>
        exfalso
        simp only [agp] at h
        rw [jU, tn] at h
        simp at h
      | nod n' =>
        obtain ⟨tn', fn'⟩ := fy n' (by simp)
        simp only [agp] at h
        rw [jU, jU, tn, tn'] at h
        simp only [Bool.false_eq_true, if_false, List.cons_append, List.append_assoc, List.nil_append, List.cons.injEq, Tk.opn.injEq] at h
        obtain ⟨⟨hk, hat⟩, h⟩ := h
        have r1 := Q4 fn tn
        have r2 := Q4 fn' tn'
        have hsz : szI (items n.Kids) ≤ f := by
          rw [anK]
          simp only [anh] at hf
          rw [xu, tn] at hf
          simp at hf
          omega
        rw [← Ke, ← Ke] at h
        obtain ⟨e1, e2⟩ := ajn f (items n.Kids) (items n'.Kids) (Tk.cls :: (tkI X ++ R)) (Tk.cls :: (tkI Y ++ S)) hsz (abg r1.form) (abg r2.form) trivial trivial h
        have e3 := aj2 r1 r2 e1
        have e4 := aag fn fn' tn tn' hk hat e3
        subst e4
        simp only [List.cons.injEq, true_and] at e2
        obtain ⟨rfl, h2⟩ := ajn f X Y R S (by omega) fx' fy' hR hS e2
        exact ⟨rfl, h2⟩
theorem amW {a b : List za} (ha : yJ a) (hb : yJ b) (h : tkL a = tkL b) : a = b := by
  rw [← Ke, ← Ke] at h
  exact aj2 ha hb (ajn (szI (items a)) (items a) (items b) [] [] (Nat.le_refl _) (abg ha.form) (abg hb.form) trivial trivial (by simpa using h)).1
end Go.Proofs.YtclohbgnaopjfaaDoor
namespace Go.Proofs.YtclohbgnaopjfaaDoor
set_option linter.unusedSimpArgs false
set_option linter.unusedVariables false
open Go
theorem right_eq (n : za) (h : nwt n ≤ 1099511627776) : QE n = some (checkN n == 0) := by
 unfold QE
 rw [akN n h]
 rfl
end Go.Proofs.YtclohbgnaopjfaaDoor
namespace Go.Proofs.YtclohbgnaopjfaaDoor
set_option linter.unusedSimpArgs false
set_option linter.unusedVariables false
open Go
def at5 (l : List za) (i r : Nat) : Prop := i ≤ l.length ∧ (∀ k, l[i]? = some k → r < kL k) ∧ (i = l.length → r = 0)
theorem At.fn {n : za} {q m a} (h : At n q m a) : ∀ {m' a'}, At n q m' a' → m = m' ∧ a = a' := by
 induction h with
 | nil n => intro m' a' h'; cases h'; exact ⟨rfl, rfl⟩
 | cons n i k q m a hi hn hk h ih =>
  intro m' a' h'
  cases h' with
  | cons _ _ k' _ _ a2 hi' _ _ h2 =>
   rw [hi] at hi'
   cases hi'
   obtain ⟨rfl, rfl⟩ := ih h2
   exact ⟨rfl, rfl⟩
def aoR (m : za) (idx off : Nat) : Prop := idx ≤ m.Kids.length ∧ (∀ k, m.Kids[idx]? = some k → off < kL k ∧ (0 < off → isT k = true)) ∧ (idx = m.Kids.length → off = 0)
theorem aoR.idx {m : za} {i r} (h : aoR m i r) : at5 m.Kids i r := ⟨h.1, fun k hk => (h.2.1 k hk).1, h.2.2⟩
structure Flat (n : za) (f t : Nat) (q : List Nat) (m : za) (a : Nat) (X Y Z : List It) : Prop where
 at_ : At n q m a
 nt : isT m = false
 it : items m.Kids = X ++ (Y ++ Z)
 sx : a + szI X = f
 sy : f + szI Y = t
theorem At.form {n : za} {q m a} (h : At n q m a) : qK n = true → qK m = true := by
 induction h with
 | nil n => exact id
 | cons n i k q m a hi hn hk h ih => exact fun hf => ih (alm hf hn k (List.mem_of_getElem? hi))
theorem apT.len {n : za} {s p} (h : apT n s p) : s.Path.length ≤ p := by
 obtain ⟨q, m, a, idx, off, rfl, h1, _, _, h2, _⟩ := h
 rw [asj]
 have := h1.len
 omega
structure RN (n : za) : Prop where
 ok : checkN n = 0
 nt : isT n = false
 wt : nwt n ≤ 549755813888
theorem aaR {n : za} (h : checkN n = 0) : qK n = true ∧ xG n ≤ 40 ∧ kL n ≤ 4000 := by
 unfold checkN at h
 cases hf : qK n with
 | false => rw [hf] at h; simp at h
 | true =>
  rw [hf] at h
  simp only [Bool.true_eq_false, if_false] at h
  refine ⟨rfl, ?_, ?_⟩
  ·by_cases hd : 40 < xG n
   ·rw [if_pos hd] at h; cases h
   ·omega
  ·by_cases hd : 40 < xG n
   ·rw [if_pos hd] at h; cases h
   ·rw [if_neg hd] at h
    by_cases hs : 4000 < kL n
    ·rw [if_pos hs] at h; cases h
    ·omega
theorem RN.form {n : za} (h : RN n) : qK n = true := (aaR h.ok).1
end Go.Proofs.YtclohbgnaopjfaaDoor
namespace Go.Proofs.YtclohbgnaopjfaaDoor
set_option linter.unusedSimpArgs false
set_option linter.unusedVariables false
open Go
theorem akX {l : List za} {i : Nat} {k : za} (h : l[i]? = some k) : xk l = max (xk (l.take i)) (max (Wt k) (xk (l.drop (i + 1)))) := by
 conv => lhs; rw [X9 h]
 rw [anN, xk]
theorem At.depth {n : za} {q m a} (h : At n q m a) : q.length + Wt m ≤ Wt n := by
 induction h with
 | nil n => simp
 | cons n i k q m a hi hn hk h ih =>
  have := akX hi
  rw [ZU n]
  simp only [List.length_cons]
  omega
theorem ap5 {l : List za} {i : Nat} {k : za} (h : l[i]? = some k) : tkL l = tkL (l.take i) ++ (tkN k ++ tkL (l.drop (i + 1))) := by
 conv => lhs; rw [X9 h]
 rw [amG, tkL]
end Go.Proofs.YtclohbgnaopjfaaDoor
namespace Go.Proofs.YtclohbgnaopjfaaDoor
set_option linter.unusedSimpArgs false
set_option linter.unusedVariables false
open Go
end Go.Proofs.YtclohbgnaopjfaaDoor
namespace Go.Proofs.YtclohbgnaopjfaaDoor
set_option linter.unusedSimpArgs false
set_option linter.unusedVariables false
open Go
def an5 : Tk → Nat
 | .sgn _ m => 10 + wL m
 | .opn k a => 2 + k.length + vg a
 | .cls => 0
def tw : List Tk → Nat
 | [] => 0
 | t :: l => an5 t + tw l
theorem afi : ∀ a b : List Tk, tw (a ++ b) = tw a + tw b
 | [], b => by simp [tw]
 | x :: a, b => by simp only [List.cons_append, tw, afi a b]; omega
theorem aiU (m : List Str) : ∀ l : List Int, tw (l.map fun c => Tk.sgn c m) = l.length * (10 + wL m)
 | [] => by simp [tw]
 | c :: l => by simp only [List.map_cons, tw, an5, aiU m l, List.length_cons, Nat.add_mul]; omega
theorem abo : ∀ l : List Int, (zN l).length ≤ 4 * l.length
 | [] => by simp [zN]
 | c :: l => by
  rw [QV, List.length_append, List.length_cons]
  have := (anY c).2
  have := abo l
  omega
theorem aix : ∀ l : List za, (∀ n ∈ l, nwt n ≤ tw (tkN n)) → zU l ≤ tw (tkL l)
 | [], _ => by simp [zU]
 | n :: l, h => by
  have h1 := h n (by simp)
  have h2 := aix l fun x hx => h x (by simp [hx])
  simp only [zU, tkL, afi]; omega
theorem asS (n : za) : qK n = true → nwt n ≤ tw (tkN n) := by
  induction n using za.ind with
  | h n ih =>
    intro hf
    rw [wQ, jU]
    cases ht : isT n with
    | true =>
      obtain ⟨h1, h2, h3, h4, h5⟩ := xw hf ht
      have hk := XI ht
      have hr := abo (runes n.Text)
      rw [Wl h2] at hr
      have hl := ajq h1
      rw [← Kc] at hl
      simp only [if_true]
      rw [aiU, h4, h5, hk, Nat.mul_add]
      have : wL n.Marks ≤ (runes n.Text).length * wL n.Marks := Nat.le_mul_of_pos_left _ (by omega)
      simp only [vg, zU, jf, List.length_cons, List.length_nil]
      omega
    | false =>
      have hr := Q4 hf ht
      have h1 := aix n.Kids fun x hx => ih x hx (hr.form x hx)
      rw [jS, if_neg (by simp [ht])] at hf
      simp only [Bool.and_eq_true, decide_eq_true_eq] at hf
      simp only [Bool.false_eq_true, if_false, tw, an5, afi]
      rw [hf.1.1.1.2, hf.1.1.2]
      simp only [wL, List.length_nil]
      omega
theorem ar7 {l : List za} (h : yJ l) : zU l ≤ tw (tkL l) := aix l fun n hn => asS n (h.form n hn)
theorem aiI (W : Nat) : ∀ l : List za, (∀ n ∈ l, tw (tkN n) ≤ nwt n * (W + 10)) → tw (tkL l) ≤ zU l * (W + 10)
 | [], _ => by simp [tkL, tw]
 | n :: l, h => by
  have h1 := h n (by simp)
  have h2 := aiI W l fun x hx => h x (by simp [hx])
  simp only [zU, tkL, afi, Nat.add_mul]; omega
def dpT : Nat → List Tk → Nat
 | _, [] => 0
 | d, .opn _ _ :: l => max (d + 1) (dpT (d + 1) l)
 | d, .cls :: l => dpT (d - 1) l
 | d, .sgn _ _ :: l => dpT d l
theorem akS (m : List Str) (d : Nat) (R : List Tk) : ∀ l : List Int, dpT d ((l.map fun c => Tk.sgn c m) ++ R) = dpT d R
 | [] => rfl
 | c :: l => by rw [List.map_cons, List.cons_append, dpT, akS m d R l]
def dOf (d x : Nat) : Nat := if x = 0 then 0 else d + x
theorem aiL (d : Nat) : ∀ (l : List za) (R : List Tk), (∀ n ∈ l, ∀ R, dpT d (tkN n ++ R) = max (dOf d (xG n)) (dpT d R)) → dpT d (tkL l ++ R) = max (dOf d (qX l)) (dpT d R)
  | [], R, _ => by simp [tkL, qX, dOf]
  | n :: l, R, h => by
    rw [tkL, List.append_assoc, h n (by simp), aiL d l R fun x hx => h x (by simp [hx]), qX]
    unfold dOf
    split <;> split <;> split <;> omega
theorem aoH (n : za) : ∀ (d : Nat) (R : List Tk), dpT d (tkN n ++ R) = max (dOf d (xG n)) (dpT d R) := by
 induction n using za.ind with
 | h n ih =>
  intro d R
  rw [jU, ZV]
  cases ht : isT n with
  | true =>
   simp only [if_true]
   rw [akS]
   simp [dOf]
  | false =>
   simp only [Bool.false_eq_true, if_false, List.cons_append, List.append_assoc, List.nil_append]
   rw [dpT, aiL (d + 1) n.Kids _ fun x hx => ih x hx (d + 1), dpT, Nat.add_sub_cancel]
   unfold dOf
   rw [if_neg (show ¬ (qX n.Kids + 1 = 0) by omega)]
   split <;> omega
theorem asL (l : List za) : dpT 0 (tkL l) = qX l := by
 have := aiL 0 l [] fun x _ => aoH x 0
 rw [List.append_nil, dpT] at this
 unfold dOf at this
 split at this
 ·rename_i h0; rw [h0]; omega
 ·omega
structure TD (n : za) (T : List Tk) : Prop where
 ok : checkN n = 0
 nt : isT n = false
 tk : tkL n.Kids = T
def wD (n : za) (T : List Tk) : Nat := n.Kind.length + vg n.zu + tw T
theorem anu {n : za} (h : qK n = true) (ht : isT n = false) : n.Text = [] ∧ n.Marks = [] := by
  rw [jS, if_neg (by simp [ht])] at h
  simp only [Bool.and_eq_true, decide_eq_true_eq] at h
  exact ⟨h.1.1.1.2, h.1.1.2⟩
theorem TD.form {n T} (h : TD n T) : qK n = true := (aaR h.ok).1
theorem TD.row {n T} (h : TD n T) : yJ n.Kids := Q4 h.form h.nt
theorem ass {n : za} {T : List Tk} (hf : qK n = true) (ht : isT n = false) (hT : tkL n.Kids = T) : nwt n ≤ 2 + wD n T := by
 obtain ⟨h1, h2⟩ := anu hf ht
 have := ar7 (Q4 hf ht)
 rw [hT] at this
 rw [wQ, h1, h2]
 unfold wD
 simp only [wL, List.length_nil]
 omega
theorem TD.wt {n T} (h : TD n T) : nwt n ≤ 2 + wD n T := ass h.form h.nt h.tk
theorem TD.rn {n T} (h : TD n T) (hw : wD n T ≤ 100000000) : RN n := ⟨h.ok, h.nt, by have := h.wt; omega⟩
theorem TD.len {n T} (h : TD n T) : T.length = qi n.Kids := by rw [← h.tk, aeI]
theorem TD.size {n T} (h : TD n T) : kL n = 2 + T.length := by rw [Ym h.nt, h.len]
theorem TD.small {n T} (h : TD n T) : T.length ≤ 3998 := by
 have := (aaR h.ok).2.2
 rw [h.size] at this
 omega
theorem TD.ext {a b T} (ha : TD a T) (hb : TD b T) (hk : a.Kind = b.Kind) (hat : a.zu = b.zu) : a = b :=
 aag ha.form hb.form ha.nt hb.nt hk hat (amW ha.row hb.row (by rw [ha.tk, hb.tk]))
theorem aj6 {n : za} (hf : qK n = true) (ht : isT n = false) {T : List Tk} (hT : tkL n.Kids = T) : checkN n = if 40 < dpT 0 T + 1 then 4 else if 4000 < 2 + T.length then 5 else 0 := by
  have h1 : xG n = dpT 0 T + 1 := by rw [ZV, if_neg (by simp [ht]), ← asL, hT]
  have h2 : kL n = 2 + T.length := by rw [Ym ht, ← aeI, hT]
  unfold checkN
  rw [hf, if_neg (show ¬ (true = false) by simp), h1, h2]
theorem TD.of {n : za} {T : List Tk} (hf : qK n = true) (ht : isT n = false) (hT : tkL n.Kids = T) (hd : dpT 0 T ≤ 39) (hl : T.length ≤ 3998) : TD n T :=
  ⟨by rw [aj6 hf ht hT, if_neg (by omega), if_neg (by omega)], ht, hT⟩
theorem TD.deep {n T} (h : TD n T) : dpT 0 T ≤ 39 := by
 have := h.ok
 rw [aj6 h.form h.nt h.tk] at this
 split at this
 ·cases this
 ·omega
end Go.Proofs.YtclohbgnaopjfaaDoor
namespace Go.Proofs.YtclohbgnaopjfaaDoor
set_option linter.unusedSimpArgs false
set_option linter.unusedVariables false
open Go Classical
theorem ZG : ∀ x : Str, Op.bytesLess x x = false
 | [] => rfl
 | a :: x => by
  have h : ¬ a < a := by rw [UInt8.lt_iff_toNat_lt]; omega
  simp [Op.bytesLess, ZG x]
theorem Xl : ∀ x y z : Str, Op.bytesLess x y = true → Op.bytesLess y z = true → Op.bytesLess x z = true
 | _, [], _, h, _ => by simp [Op.bytesLess] at h
 | _, _ :: _, [], _, h => by simp [Op.bytesLess] at h
 | [], _ :: _, _ :: _, _, _ => rfl
 | a :: x, b :: y, c :: z, h1, h2 => by
  simp only [Op.bytesLess, Bool.or_eq_true, Bool.and_eq_true, decide_eq_true_eq, beq_iff_eq, UInt8.lt_iff_toNat_lt] at h1 h2 ⊢
  rcases h1 with h1 | ⟨rfl, h1⟩
  ·rcases h2 with h2 | ⟨rfl, h2⟩
   ·exact .inl (by omega)
   ·exact .inl h1
  ·rcases h2 with h2 | ⟨rfl, h2⟩
   ·exact .inl h2
   ·exact .inr ⟨rfl, Xl x y z h1 h2⟩
theorem ak9 : ∀ x y : Str, Op.bytesLess x y = true ∨ x = y ∨ Op.bytesLess y x = true
 | [], [] => .inr (.inl rfl)
 | [], _ :: _ => .inl rfl
 | _ :: _, [] => .inr (.inr rfl)
 | a :: x, b :: y => by
  simp only [Op.bytesLess, Bool.or_eq_true, Bool.and_eq_true, decide_eq_true_eq, beq_iff_eq, UInt8.lt_iff_toNat_lt, List.cons.injEq]
  by_cases h : a = b
  ·subst h
   rcases ak9 x y with h1 | h1 | h1
   ·exact .inl (.inr ⟨rfl, h1⟩)
   ·exact .inr (.inl ⟨rfl, h1⟩)
   ·exact .inr (.inr (.inr ⟨rfl, h1⟩))
  ·have : a.toNat ≠ b.toNat := fun e => h (UInt8.toNat_inj.1 e)
   rcases Nat.lt_or_gt_of_ne this with h1 | h1
   ·exact .inl (.inl h1)
   ·exact .inr (.inr (.inl h1))
theorem ao8 {x y : Str} (h : Op.bytesLess x y = true) : Op.bytesLess y x = false := by
 cases h2 : Op.bytesLess y x with
 | false => rfl
 | true => have := Xl x y x h h2; rw [ZG] at this; cases this
theorem acf {x : Str} (h : isName x = true) : x.length ≤ 20 := by
 unfold isName at h
 simp only [Bool.and_eq_true, decide_eq_true_eq] at h
 have := h.1.2
 omega
abbrev BL (a b : Str) : Prop := Op.bytesLess a b = true
theorem aaG : ∀ (l : List Str) (last : Option Str), yj last l = true ↔ (∀ x ∈ l, isName x = true) ∧ l.Pairwise BL ∧ ∀ x, last = some x → ∀ y ∈ l, BL x y
 | [], last => by simp [yj]
 | y :: l, none => by
  rw [KC, Bool.and_eq_true, Bool.and_eq_true, aaG l (some y)]
  simp only [List.mem_cons, forall_eq_or_imp, List.pairwise_cons, Option.some.injEq, forall_eq', and_true, reduceCtorEq, false_implies, implies_true]
  constructor
  ·rintro ⟨h1, h3, h4, h5⟩
   exact ⟨⟨h1, h3⟩, h5, h4⟩
  ·rintro ⟨⟨h1, h3⟩, h5, h4⟩
   exact ⟨h1, h3, h4, h5⟩
 | y :: l, some x => by
  rw [KC, Bool.and_eq_true, Bool.and_eq_true, aaG l (some y)]
  have key : (!(Op.bytesLess y x || y == x)) = true ↔ BL x y := by
   simp only [Bool.not_eq_true', Bool.or_eq_false_iff, beq_eq_false_iff_ne]
   constructor
   ·rintro ⟨h1, h2⟩
    rcases ak9 x y with h | h | h
    ·exact h
    ·exact absurd h.symm h2
    ·rw [h1] at h; cases h
   ·intro h
    exact ⟨ao8 h, fun e => by subst e; rw [BL, ZG] at h; cases h⟩
  simp only [key, List.mem_cons, forall_eq_or_imp, List.pairwise_cons, Option.some.injEq, forall_eq']
  constructor
  ·rintro ⟨⟨h1, h2⟩, h3, h4, h5⟩
   exact ⟨⟨h1, h3⟩, ⟨h5, h4⟩, h2, fun z hz => Xl _ _ _ h2 (h5 z hz)⟩
  ·rintro ⟨⟨h1, h3⟩, ⟨h5, h4⟩, h6, _⟩
   exact ⟨⟨h1, h6⟩, h3, h4, h5⟩
theorem VS (l : List Str) : jm l = true ↔ (∀ x ∈ l, isName x = true) ∧ l.Pairwise BL := by
 unfold jm
 rw [aaG]
 simp
theorem ae8 : ∀ (a b : List Str), a.Pairwise BL → b.Pairwise BL → (∀ y, y ∈ a ↔ y ∈ b) → a = b
  | [], [], _, _, _ => rfl
  | [], y :: b, _, _, h => by have := (h y).2 (by simp); cases this
  | x :: a, [], _, _, h => by have := (h x).1 (by simp); cases this
  | x :: a, y :: b, ha, hb, h => by
    rw [List.pairwise_cons] at ha hb
    have e : x = y := by
      rcases (List.mem_cons.1 ((h x).1 (by simp))) with h1 | h1
      · exact h1
      · rcases (List.mem_cons.1 ((h y).2 (by simp))) with h2 | h2
        · exact h2.symm
        · have := Xl _ _ _ (hb.1 x h1) (ha.1 y h2)
          rw [ZG] at this
          cases this
    subst e
    have nx : ∀ z, BL x z → z ≠ x := fun z hz e => by subst e; rw [BL, ZG] at hz; cases hz
    rw [ae8 a b ha.2 hb.2 fun z => ?_]
    constructor
    · intro hz
      rcases List.mem_cons.1 ((h z).1 (by simp [hz])) with h1 | h1
      · exact absurd h1 (nx z (ha.1 z hz))
      · exact h1
    · intro hz
      rcases List.mem_cons.1 ((h z).2 (by simp [hz])) with h1 | h1
      · exact absurd h1 (nx z (hb.1 z hz))
      · exact h1
theorem Xc {a b : List Str} (ha : jm a = true) (hb : jm b = true) (h : ∀ y, y ∈ a ↔ y ∈ b) : a = b := ae8 a b ((VS a).1 ha).2 ((VS b).1 hb).2 h
theorem JD (x : Str) : ∀ m : List Str, m.Pairwise BL → ∃ A B, m = A ++ B ∧ (∀ y ∈ A, BL y x) ∧ ∀ y ∈ B, Op.bytesLess y x = false
 | [], _ => ⟨[], [], rfl, by simp, by simp⟩
 | z :: m, h => by
  rw [List.pairwise_cons] at h
  cases hz : Op.bytesLess z x with
  | true =>
   obtain ⟨A, B, e, h1, h2⟩ := JD x m h.2
   exact ⟨z :: A, B, by rw [e]; rfl, by simp only [List.mem_cons, forall_eq_or_imp]; exact ⟨hz, h1⟩, h2⟩
  | false =>
   refine ⟨[], z :: m, rfl, by simp, ?_⟩
   simp only [List.mem_cons, forall_eq_or_imp]
   refine ⟨hz, fun y hy => ?_⟩
   cases hy' : Op.bytesLess y x with
   | false => rfl
   | true => have := Xl _ _ _ (h.1 y hy) hy'; rw [hz] at this; cases this
theorem ac7 (less : Nat → Bool) (k n : Nat) (h1 : ∀ t, t < k → less t = true) (h2 : ∀ t, k ≤ t → t < n → less t = false) : ∀ (f lo hi : Nat), hi - lo ≤ f → lo ≤ k → k ≤ hi → hi ≤ n → Lib.bsGo less f lo hi = k
  | 0, lo, hi, hf, a, b, _ => by simp [Lib.bsGo]; omega
  | f + 1, lo, hi, hf, a, b, c => by
    unfold Lib.bsGo
    by_cases h : lo < hi
    · rw [if_pos h]
      by_cases hm : (lo + hi) / 2 < k
      · rw [h1 _ hm, if_pos rfl]; exact ac7 less k n h1 h2 f _ _ (by omega) (by omega) b c
      · rw [h2 _ (by omega) (by omega), if_neg (by simp)]; exact ac7 less k n h1 h2 f _ _ (by omega) a (by omega) (by omega)
    · rw [if_neg h]; omega
theorem anw {x : Str} {A B : List Str} (hA : ∀ y ∈ A, BL y x) (hB : ∀ y ∈ B, Op.bytesLess y x = false) : bsI (A ++ B) x = A.length := by
 unfold bsI
 refine ac7 _ A.length (A ++ B).length (fun t ht => ?_) (fun t ht ht' => ?_) _ _ _ (by omega) (by omega) (by simp) (by simp)
 ·rw [List.getD_eq_getElem?_getD, List.getElem?_append_left ht, List.getElem?_eq_getElem ht]
  exact hA _ (List.getElem_mem ht)
 ·rw [List.getD_eq_getElem?_getD, List.getElem?_eq_getElem ht', List.getElem_append_right ht]
  exact hB _ (List.getElem_mem _)
def mkS (k : Int) (x : Str) (m : List Str) : List Str := (ZR k x m).1
theorem akY {x : Str} {A B : List Str} (hs : (A ++ B).Pairwise BL) (hA : ∀ y ∈ A, BL y x) (hB : ∀ y ∈ B, Op.bytesLess y x = false) (k : Int) :
  (x ∈ A ++ B ∧ ∃ B', B = x :: B' ∧ (∀ y ∈ B', y ≠ x) ∧ ZR k x (A ++ B) = (if k = 109 then (A ++ B, false) else (A ++ B', true))) ∨
  (x ∉ A ++ B ∧ ZR k x (A ++ B) = (if k = 109 then (A ++ x :: B, true) else (A ++ B, false))) := by
 have hnA : x ∉ A := fun h => by have := hA x h; rw [BL, ZG] at this; cases this
 have hi := anw hA hB
 have hd : aaX (A ++ B) A.length = A ++ B.drop 1 := by simp [aaX]
 have hn : KE (A ++ B) A.length x = A ++ x :: B := by simp [KE]
 unfold ZR
 rw [hi, hd, hn]
 cases B with
 | nil =>
  right
  rw [List.append_nil] at hs ⊢
  refine ⟨hnA, ?_⟩
  have : decide (A.length < A.length ∧ A.getD A.length [] = x) = false := by simp
  rw [this]
  by_cases h : k = 109 <;> simp [h]
 | cons y B =>
  have hg : (A ++ y :: B).getD A.length [] = y := by simp
  rw [hg]
  have hlt : A.length < (A ++ y :: B).length := by simp
  rw [List.pairwise_append, List.pairwise_cons] at hs
  by_cases e : y = x
  ·subst e
   left
   refine ⟨by simp, B, rfl, fun z hz e => ?_, ?_⟩
   ·subst e
    have := hs.2.1.1 z hz
    rw [BL, ZG] at this
    cases this
   have : decide (A.length < (A ++ y :: B).length ∧ y = y) = true := by simp
   rw [this]
   by_cases h : k = 109 <;> simp [h]
  ·right
   refine ⟨fun hx => ?_, ?_⟩
   ·rcases List.mem_append.1 hx with h | h
    ·exact hnA h
    ·rcases List.mem_cons.1 h with h | h
     ·exact e h.symm
     ·have h1 := hs.2.1.1 x h
      have h9 := hB y (by simp)
      rw [show Op.bytesLess y x = true from h1] at h9
      cases h9
   ·have : decide (A.length < (A ++ y :: B).length ∧ y = x) = false := by simp [e]
    rw [this]
    by_cases h : k = 109 <;> simp [h]
theorem acm {x : Str} {m : List Str} (hm : jm m = true) (hx : isName x = true) : jm (mkS 109 x m) = true ∧ (∀ y, y ∈ mkS 109 x m ↔ y = x ∨ y ∈ m) ∧ (ZR 109 x m).2 = decide (x ∉ m) := by
 obtain ⟨h1, h2⟩ := (VS m).1 hm
 obtain ⟨A, B, rfl, hA, hB⟩ := JD x m h2
 unfold mkS
 rcases akY h2 hA hB 109 with ⟨hin, B', rfl, _, e⟩ | ⟨hin, e⟩
 ·rw [e, if_pos rfl]
  refine ⟨hm, fun y => ?_, by simp⟩
  constructor
  ·exact .inr
  ·rintro (rfl | h)
   ·exact hin
   ·exact h
 ·rw [e, if_pos rfl]
  have hx' : ∀ y ∈ B, BL x y := fun y hy => by
   rcases ak9 x y with h | h | h
   ·exact h
   ·subst h; exact absurd (List.mem_append.2 (.inr hy)) hin
   ·have h9 := hB y hy; rw [show Op.bytesLess y x = true from h] at h9; cases h9
  rw [List.pairwise_append] at h2
  refine ⟨(VS _).2 ⟨?_, ?_⟩, fun y => ?_, by simp [hin]⟩
  ·intro y hy
   rcases List.mem_append.1 hy with h | h
   ·exact h1 y (by simp [h])
   ·rcases List.mem_cons.1 h with rfl | h
    ·exact hx
    ·exact h1 y (by simp [h])
  ·rw [List.pairwise_append, List.pairwise_cons]
   refine ⟨h2.1, ⟨hx', h2.2.1⟩, fun a ha b hb => ?_⟩
   rcases List.mem_cons.1 hb with rfl | hb
   ·exact hA a ha
   ·exact h2.2.2 a ha b hb
  ·simp only [List.mem_append, List.mem_cons]
   constructor
   ·rintro (h | h | h)
    ·exact .inr (.inl h)
    ·exact .inl h
    ·exact .inr (.inr h)
   ·rintro (h | h | h)
    ·exact .inr (.inl h)
    ·exact .inl h
    ·exact .inr (.inr h)
theorem ajc {k : Int} (hk : k ≠ 109) {x : Str} {m : List Str} (hm : jm m = true) : jm (mkS k x m) = true ∧ (∀ y, y ∈ mkS k x m ↔ y ≠ x ∧ y ∈ m) ∧ (ZR k x m).2 = decide (x ∈ m) := by
  obtain ⟨h1, h2⟩ := (VS m).1 hm
  obtain ⟨A, B, rfl, hA, hB⟩ := JD x m h2
  unfold mkS
  rcases akY h2 hA hB k with ⟨hin, B', rfl, hB', e⟩ | ⟨hin, e⟩
  · rw [e, if_neg hk]
    have hnA : x ∉ A := fun h => by have := hA x h; rw [BL, ZG] at this; cases this
    rw [List.pairwise_append, List.pairwise_cons] at h2
    refine ⟨(VS _).2 ⟨fun y hy => ?_, ?_⟩, fun y => ?_, by simp⟩
    · rcases List.mem_append.1 hy with h | h
      · exact h1 y (by simp [h])
      · exact h1 y (by simp [h])
    · rw [List.pairwise_append]
      exact ⟨h2.1, h2.2.1.2, fun a ha b hb => h2.2.2 a ha b (by simp [hb])⟩
    · simp only [List.mem_append, List.mem_cons]
      constructor
      · rintro (h | h)
        · exact ⟨fun e => hnA (e ▸ h), .inl h⟩
        · exact ⟨hB' y h, .inr (.inr h)⟩
      · rintro ⟨h, h3 | h3 | h3⟩
        · exact .inl h3
        · exact absurd h3 h
        · exact .inr h3
  · rw [e, if_neg hk]
    refine ⟨hm, fun y => ?_, by simp [hin]⟩
    constructor
    · intro h
      exact ⟨fun e => hin (e ▸ h), h⟩
    · exact fun h => h.2
theorem aqu (k : Int) {x : Str} {m : List Str} (hm : jm m = true) (hx : isName x = true) : jm (mkS k x m) = true := by
 by_cases h : k = 109
 ·subst h; exact (acm hm hx).1
 ·exact (ajc h hm).1
theorem aqJ (k : Int) {x : Str} {m : List Str} (hm : jm m = true) (hx : isName x = true) : (ZR k x m).2 = decide (mkS k x m ≠ m) := by
 by_cases h : k = 109
 ·subst h
  obtain ⟨h1, h2, h3⟩ := acm hm hx
  rw [h3]
  congr 1
  apply propext
  constructor
  ·intro h4 e
   have := (h2 x).2 (.inl rfl)
   rw [e] at this
   exact h4 this
  ·intro h4 h5
   refine h4 (Xc h1 hm fun y => ?_)
   rw [h2]
   constructor
   ·rintro (rfl | h)
    ·exact h5
    ·exact h
   ·exact .inr
 ·obtain ⟨h1, h2, h3⟩ := ajc h hm (x := x)
  rw [h3]
  congr 1
  apply propext
  constructor
  ·intro h4 e
   rw [← e, h2] at h4
   exact h4.1 rfl
  ·intro h4
   by_cases h5 : x ∈ m
   ·exact h5
   ·refine absurd (Xc h1 hm fun y => ?_) h4
    rw [h2]
    exact ⟨fun h => h.2, fun h => ⟨fun e => h5 (e ▸ h), h⟩⟩
end Go.Proofs.YtclohbgnaopjfaaDoor
namespace Go.Proofs.YtclohbgnaopjfaaDoor
set_option linter.unusedSimpArgs false
set_option linter.unusedVariables false
open Go Classical
section
variable (k : Int) (x : Str) (a b : Nat)
def mkT (i : Nat) : Tk → Tk
 | .sgn c m => .sgn c (if a ≤ i ∧ i < b then mkS k x m else m)
 | t => t
theorem Zf (i : Nat) (c : Int) (m : List Str) : mkT k x a b i (.sgn c m) = .sgn c (if a ≤ i ∧ i < b then mkS k x m else m) := rfl
theorem aeK (i : Nat) (c : Str) (m : List zg) : mkT k x a b i (.opn c m) = .opn c m := rfl
theorem aiy (i : Nat) : mkT k x a b i .cls = .cls := rfl
def qd : Nat → List Tk → List Tk
 | _, [] => []
 | i, t :: l => mkT k x a b i t :: qd (i + 1) l
theorem acX : ∀ (l r : List Tk) (i : Nat), qd k x a b i (l ++ r) = qd k x a b i l ++ qd k x a b (i + l.length) r
 | [], r, i => by simp [qd]
 | t :: l, r, i => by
  rw [List.cons_append, qd, qd, acX l r (i + 1), List.cons_append, List.length_cons]
  congr 3
  omega
theorem ads : ∀ (l : List Tk) (i : Nat), (qd k x a b i l).length = l.length
 | [], i => rfl
 | t :: l, i => by rw [qd, List.length_cons, List.length_cons, ads l]
theorem JG : ∀ (l : List Tk) (i d : Nat), dpT d (qd k x a b i l) = dpT d l
 | [], i, d => rfl
 | .sgn c m :: l, i, d => by rw [qd, Zf, dpT, dpT, JG l]
 | .opn c m :: l, i, d => by rw [qd, aeK, dpT, dpT, JG l]
 | .cls :: l, i, d => by rw [qd, aiy, dpT, dpT, JG l]
theorem arQ (m : List Str) : wL (mkS k x m) ≤ wL m + 1 + x.length := by
 have ins : ∀ (m : List Str) (i : Nat), wL (KE m i x) = wL m + (1 + x.length) := by
  intro m i
  have app : ∀ p q : List Str, wL (p ++ q) = wL p + wL q := by
   intro p q
   induction p with
   | nil => simp [wL]
   | cons y p ih => simp only [List.cons_append, wL, ih]; omega
  have h := app (m.take i) (m.drop i)
  rw [List.take_append_drop] at h
  unfold KE
  rw [app, wL]
  omega
 have del : ∀ (m : List Str) (i : Nat), wL (aaX m i) ≤ wL m := by
  intro m i
  have app : ∀ p q : List Str, wL (p ++ q) = wL p + wL q := by
   intro p q
   induction p with
   | nil => simp [wL]
   | cons y p ih => simp only [List.cons_append, wL, ih]; omega
  have h := app (m.take i) (m.drop i)
  rw [List.take_append_drop] at h
  have h2 := app ((m.drop i).take 1) ((m.drop i).drop 1)
  rw [List.take_append_drop, List.drop_drop] at h2
  unfold aaX
  rw [app]
  omega
 unfold mkS ZR
 split
 ·show wL m ≤ _; omega
 ·split
  ·have := del m (bsI m x); show wL (aaX m (bsI m x)) ≤ _; omega
  ·have := ins m (bsI m x); show wL (KE m (bsI m x) x) ≤ _; omega
theorem aaZ : ∀ (l : List Tk) (i : Nat), tw (qd k x a b i l) ≤ tw l + l.length * (1 + x.length)
 | [], i => by simp [qd, tw]
 | .sgn c m :: l, i => by
  have h1 := aaZ l (i + 1)
  have h2 := arQ k x m
  rw [qd, Zf, tw, tw, an5, an5, List.length_cons, Nat.add_mul]
  split <;> omega
 | .opn c m :: l, i => by
  have h1 := aaZ l (i + 1)
  rw [qd, aeK, tw, tw, List.length_cons, Nat.add_mul]
  omega
 | .cls :: l, i => by
  have h1 := aaZ l (i + 1)
  rw [qd, aiy, tw, tw, List.length_cons, Nat.add_mul]
  omega
def abt (o : List zo) (i : Nat) : List zo :=
 match o.getLast? with
 | some r => if r.Pos + r.Old = i then o.dropLast ++ [{ r with Old := r.Old + 1 }] else o ++ [⟨i, 1, 0⟩]
 | none => [⟨i, 1, 0⟩]
def asq (i : Nat) (o : List zo) : Tk → List zo
 | .sgn _ m => if a ≤ i ∧ i < b ∧ mkS k x m ≠ m then abt o i else o
 | _ => o
theorem aj1 (i : Nat) (o : List zo) (c : Int) (m : List Str) : asq k x a b i o (.sgn c m) = if a ≤ i ∧ i < b ∧ mkS k x m ≠ m then abt o i else o := rfl
def WR : Nat → List Tk → List zo → List zo
 | _, [], o => o
 | i, t :: l, o => WR (i + 1) l (asq k x a b i o t)
theorem afR : ∀ (l r : List Tk) (i : Nat) (o : List zo), WR k x a b i (l ++ r) o = WR k x a b (i + l.length) r (WR k x a b i l o)
 | [], r, i, o => by simp [WR]
 | t :: l, r, i, o => by
  rw [List.cons_append, WR, WR, afR l r (i + 1), List.length_cons]
  congr 1
  omega
end
theorem aaJ (o : List zo) (r : zo) (i : Nat) : abt (o ++ [r]) i = if r.Pos + r.Old = i then o ++ [{ r with Old := r.Old + 1 }] else o ++ [r, ⟨i, 1, 0⟩] := by
 unfold abt
 rw [List.getLast?_append]
 simp
def V9 : List zo → Nat → Nat → List zo
 | o, _, 0 => o
 | o, i, n + 1 => V9 (abt o i) (i + 1) n
theorem aay (o : List zo) (r : zo) : ∀ (n i : Nat), r.Pos + r.Old = i → V9 (o ++ [r]) i n = o ++ [{ r with Old := r.Old + n }]
  | 0, i, h => by
    rw [V9]
    cases r
    simp
  | n + 1, i, h => by
    rw [V9, aaJ, if_pos h, aay o _ n (i + 1) (by simp only; omega)]
    simp only [List.append_cancel_left_eq, List.cons.injEq, zo.mk.injEq, and_true, true_and]
    omega
theorem ao2 (o : List zo) (i n : Nat) (hn : 0 < n) : V9 o i n = match o.getLast? with
    | some r => if r.Pos + r.Old = i then o.dropLast ++ [{ r with Old := r.Old + n }] else o ++ [⟨i, n, 0⟩]
    | none => [⟨i, n, 0⟩] := by
  obtain ⟨n, rfl⟩ : ∃ m, n = m + 1 := ⟨n - 1, by omega⟩
  rw [V9]
  have key : ∀ o : List zo, V9 (o ++ [⟨i, 1, 0⟩]) (i + 1) n = o ++ [⟨i, (n + 1 : Nat), 0⟩] := by
    intro o
    rw [aay o _ n (i + 1) (by simp)]
    simp only [List.append_cancel_left_eq, List.cons.injEq, zo.mk.injEq, and_true, true_and]
    omega
  rcases wP o with rfl | ⟨o, r, rfl⟩
  · have := key []
    simpa [abt] using this
  · rw [aaJ, List.getLast?_append]
    simp only [List.getLast?_singleton, Option.some_or, List.dropLast_concat]
    by_cases h : r.Pos + r.Old = i
    · rw [if_pos h, if_pos h, aay o _ n (i + 1) (by simp only; omega)]
      simp only [List.append_cancel_left_eq, List.cons.injEq, zo.mk.injEq, and_true, true_and]
      omega
    · rw [if_neg h, if_neg h]
      have := key (o ++ [r])
      simpa using this
theorem afs (k : Int) (x : Str) (a b : Nat) (m : List Str) : ∀ (cs : List Int) (i : Nat) (o : List zo), WR k x a b i (cs.map fun c => Tk.sgn c m) o = if mkS k x m ≠ m then V9 o (i + min (a - i) cs.length) (min (b - i) cs.length - min (a - i) cs.length) else o
 | [], i, o => by simp [WR, V9]
 | c :: cs, i, o => by
  rw [List.map_cons, WR, afs k x a b m cs (i + 1)]
  rw [aj1]
  by_cases hm : mkS k x m ≠ m
  ·rw [if_pos hm, if_pos hm, List.length_cons]
   by_cases h1 : a ≤ i
   ·have e1 : a - i = 0 := by omega
    have e2 : a - (i + 1) = 0 := by omega
    rw [e1, e2, Nat.zero_min, Nat.zero_min]
    by_cases h2 : i < b
    ·rw [if_pos ⟨h1, h2, hm⟩]
     have e3 : min (b - i) (cs.length + 1) - 0 = min (b - (i + 1)) cs.length + 1 := by omega
     rw [e3, V9]
     rfl
    ·rw [if_neg (fun h => h2 h.2.1)]
     have e3 : b - i = 0 := by omega
     have e4 : b - (i + 1) = 0 := by omega
     rw [e3, e4]
     simp [V9]
   ·rw [if_neg (fun h => h1 h.1)]
    congr 1 <;> omega
  ·rw [if_neg hm, if_neg hm, if_neg (fun h => hm h.2.2)]
theorem aha (k : Int) (x : Str) (a b : Nat) (m : List Str) : ∀ (cs : List Int) (i : Nat), qd k x a b i (cs.map fun c => Tk.sgn c m) = ((cs.take (min (a - i) cs.length)).map fun c => Tk.sgn c m) ++ ((((cs.take (max (min (b - i) cs.length) (min (a - i) cs.length))).drop (min (a - i) cs.length)).map fun c => Tk.sgn c (mkS k x m)) ++ ((cs.drop (max (min (b - i) cs.length) (min (a - i) cs.length))).map fun c => Tk.sgn c m))
 | [], i => by simp [qd]
 | c :: cs, i => by
  rw [List.map_cons, qd, aha k x a b m cs (i + 1), Zf]
  simp only [List.length_cons]
  by_cases h1 : a ≤ i
  ·have e1 : a - i = 0 := by omega
   have e2 : a - (i + 1) = 0 := by omega
   rw [e1, e2, Nat.zero_min, Nat.zero_min]
   by_cases h2 : i < b
   ·rw [if_pos ⟨h1, h2⟩]
    have e3 : max (min (b - i) (cs.length + 1)) 0 = max (min (b - (i + 1)) cs.length) 0 + 1 := by omega
    rw [e3]
    simp
   ·rw [if_neg (fun h => h2 h.2)]
    have e3 : b - i = 0 := by omega
    have e4 : b - (i + 1) = 0 := by omega
    rw [e3, e4]
    simp
  ·rw [if_neg (fun h => h1 h.1)]
   have e1 : min (a - i) (cs.length + 1) = min (a - (i + 1)) cs.length + 1 := by omega
   have e2 : max (min (b - i) (cs.length + 1)) (min (a - (i + 1)) cs.length + 1) = max (min (b - (i + 1)) cs.length) (min (a - (i + 1)) cs.length) + 1 := by omega
   rw [e1, e2]
   simp
end Go.Proofs.YtclohbgnaopjfaaDoor
namespace Go.Proofs.YtclohbgnaopjfaaDoor
set_option linter.unusedSimpArgs false
set_option linter.unusedVariables false
open Go Classical
def RgOk (i : Nat) (o : List zo) : Prop := o.length ≤ i ∧ ∀ r ∈ o, 0 ≤ r.Pos ∧ 1 ≤ r.Old ∧ r.Pos + r.Old ≤ (i : Int)
theorem RgOk.mono {i j : Nat} {o : List zo} (h : RgOk i o) (hij : i ≤ j) : RgOk j o := ⟨by have := h.1; omega, fun r hr => by have := h.2 r hr; omega⟩
theorem apb {i : Nat} {o : List zo} (h : RgOk i o) : RgOk (i + 1) (abt o i) := by
  rcases wP o with rfl | ⟨o, r, rfl⟩
  · refine ⟨by simp [abt], fun r hr => ?_⟩
    simp only [abt, List.getLast?_nil, List.mem_singleton] at hr
    subst hr
    simp
  · obtain ⟨h1, h2⟩ := h
    have hr := h2 r (by simp)
    rw [List.length_append, List.length_singleton] at h1
    rw [aaJ]
    split
    · refine ⟨by rw [List.length_append, List.length_singleton]; omega, fun y hy => ?_⟩
      rcases List.mem_append.1 hy with hy | hy
      · have := h2 y (by simp [hy]); omega
      · rw [List.mem_singleton] at hy
        subst hy
        simp only
        omega
    · refine ⟨by simp; omega, fun y hy => ?_⟩
      rcases List.mem_append.1 hy with hy | hy
      · have := h2 y (by simp [hy]); omega
      · rcases List.mem_cons.1 hy with rfl | hy
        · omega
        · rw [List.mem_singleton] at hy
          subst hy
          simp
theorem ap7 (k : Int) (x : Str) (a b : Nat) : ∀ (l : List Tk) (i : Nat) (o : List zo), RgOk i o → RgOk (i + l.length) (WR k x a b i l o)
 | [], i, o, h => h
 | t :: l, i, o, h => by
  rw [WR, List.length_cons]
  have h1 : RgOk (i + 1) (asq k x a b i o t) := by
   cases t with
   | sgn c m =>
    rw [aj1]
    split
    ·exact apb h
    ·exact h.mono (by omega)
   | opn k' a' => exact h.mono (by omega)
   | cls => exact h.mono (by omega)
  have := ap7 k x a b l (i + 1) _ h1
  exact this.mono (by omega)
theorem arA (K F T : Int) (N : List za) (nm v : Str) (l : List zo) (j i n : Nat) (hn : 0 < n) (hi : i + n ≤ 1000000) (hl : RgOk j l) (hj : j ≤ i) :
    vP (i : Int) ((i + n : Nat) : Int) K F T N nm v l = some (K, F, T, N, nm, v, V9 l i n) := by
  obtain ⟨h1, h2⟩ := hl
  have hw : w64 (((i + n : Nat) : Int) - (i : Int)) = (n : Int) := by rw [kG (by omega)]; omega
  unfold vP
  rw [ao2 l i n hn, hw]
  rcases wP l with rfl | ⟨o, r, rfl⟩
  · have e : w64 ((([] : List zo).length : Int) - 1) = -1 := rfl
    rw [e, if_neg (by decide), jd (by simp)]
    rfl
  · have e : w64 (((o ++ [r]).length : Int) - 1) = (o.length : Int) := by
      rw [List.length_append, List.length_singleton] at h1 ⊢
      rw [kG (by omega)]
      omega
    have hr := h2 r (by simp)
    rw [e, if_pos (by simp), Jf o [] r]
    simp only [Option.bind_some]
    rw [kG (x := r.Pos + r.Old) (by omega), List.getLast?_append]
    simp only [List.getLast?_singleton, Option.some_or, List.dropLast_concat]
    by_cases hc : r.Pos + r.Old = (i : Int)
    · rw [if_pos (by simp [hc]), if_pos hc, kG (by omega), am4]
      rfl
    · rw [if_neg (by simpa using hc), if_neg hc, jd (by simp at h1 ⊢; omega)]
      rfl
theorem ajh (n : za) (m : List Str) (cs : List Int) (a b : Nat) (h1 : a ≤ b) (h2 : b ≤ cs.length) : wC (a : Int) (b : Int) m n cs = some ⟨n.Kind, zN ((cs.take b).drop a), m, [], []⟩ := by
 unfold wC
 rw [aoT h1 h2]
 rfl
theorem aqF (a i L : Nat) (ha : a ≤ 2000000) (hi : i ≤ 2000000) : (if (L : Int) < (if (0 : Int) > (w64 ((a : Int) - (i : Int))) then (0 : Int) else w64 ((a : Int) - (i : Int))) then (L : Int) else (if (0 : Int) > (w64 ((a : Int) - (i : Int))) then (0 : Int) else w64 ((a : Int) - (i : Int)))) = ((min (a - i) L : Nat) : Int) := by
  rw [kG (by omega)]
  split <;> split <;> omega
theorem to_eq (b i L f : Nat) (hb : b ≤ 2000000) (hi : i ≤ 2000000) (hf : f ≤ L) : (if (L : Int) < (if (f : Int) > (w64 ((b : Int) - (i : Int))) then (f : Int) else w64 ((b : Int) - (i : Int))) then (L : Int) else (if (f : Int) > (w64 ((b : Int) - (i : Int))) then (f : Int) else w64 ((b : Int) - (i : Int)))) = ((max (min (b - i) L) f : Nat) : Int) := by
  rw [kG (by omega)]
  split <;> split <;> omega
theorem ahc {k : Int} {x : Str} {m : List Str} (hm : mkS k x m = m) (a b : Nat) : ∀ (cs : List Int) (i : Nat), qd k x a b i (cs.map fun c => Tk.sgn c m) = cs.map fun c => Tk.sgn c m
 | [], i => rfl
 | c :: cs, i => by rw [List.map_cons, qd, Zf, ahc hm a b cs, hm]; simp
def Parts (l : List za) : Prop := ∀ p ∈ l, isT p = true ∧ (qK p = true ∨ (p.Text = [] ∧ p.zu = [] ∧ p.Kids = []))
theorem ai9 (m : List Str) {cs : List Int} (h : ∀ c ∈ cs, VR c) (hm : jm m = true) : tkN ⟨jf, zN cs, m, [], []⟩ = (cs.map fun c => Tk.sgn c m) ∧ (qK ⟨jf, zN cs, m, [], []⟩ = true ∨ zN cs = []) ∧ nwt ⟨jf, zN cs, m, [], []⟩ = 6 + (zN cs).length + wL m := by
 obtain ⟨h1, h2⟩ := ai3 h
 refine ⟨?_, ?_, by rw [wQ]; simp [vg, zU]⟩
 ·rw [jU]
  have : isT (⟨jf, zN cs, m, [], []⟩ : za) = true := by simp [isT]
  rw [this, if_pos rfl, h1]
 ·by_cases e : zN cs = []
  ·exact .inr e
  ·exact .inl (amy e h2 hm)
theorem aqE {n : za} (hf : qK n = true) (ht : isT n = true) (k : Int) {x : Str} (hx : isName x = true) (a b i : Nat) (ha : a ≤ 2000000) (hb : b ≤ 2000000) (hi : i + kL n ≤ 1000000) (N : List za) (v : Str) (o : List zo) (ho : RgOk i o) (hw : nwt n ≤ 1000000000) :
    ∃ out, vN n (i : Int) k (a : Int) (b : Int) N x v o = some (out, k, (a : Int), (b : Int), N, x, v, WR k x a b i (tkN n) o) ∧ Parts out ∧ tkL out = qd k x a b i (tkN n) ∧ zU out ≤ 3 * nwt n + 1 + x.length ∧ out.length ≤ 3 := by
  obtain ⟨t1, t2, t3, t4, t5⟩ := xw hf ht
  have hk := XI ht
  have hcs := akR t2
  have hsz : kL n = (runes n.Text).length := by rw [xu, ht, Kc]; rfl
  have hone : Parts [n] ∧ zU [n] ≤ 3 * nwt n + 1 + x.length := by
    refine ⟨fun p hp => ?_, by simp only [zU]; omega⟩
    rw [List.mem_singleton] at hp
    subst hp
    exact ⟨ht, .inl hf⟩
  have htl : tkL [n] = tkN n := by simp [tkL]
  have htk : tkN n = (runes n.Text).map fun c => Tk.sgn c n.Marks := by rw [jU, if_pos ht]
  have hmw := arQ k x n.Marks
  have hmr := aqu k t3 hx
  have hml : n.Marks.length ≤ 1099511627776 := by have := aeE n.Marks; rw [wQ] at hw; omega
  have hwn : nwt n = 6 + n.Text.length + wL n.Marks := by rw [wQ, hk, t4, t5]; simp [vg, zU]
  have hval := Wl t2
  unfold vN Qd
  rw [kK hml]
  simp only [Option.bind_some]
  rw [aqJ k t3 hx, aqF a i _ ha (by omega), to_eq b i _ _ hb (by omega) (by omega)]
  have e1 : (ZR k x n.Marks).1 = mkS k x n.Marks := rfl
  rw [e1, htk]
  generalize hcsd : runes n.Text = cs at *
  by_cases hm : mkS k x n.Marks = n.Marks
  · refine ⟨[n], ?_, hone.1, by rw [ahc hm, htl, htk], hone.2, by simp⟩
    rw [if_pos (by simp [hm]), afs, if_neg (by simpa using hm)]
  · rw [if_neg (by simp [hm]), afs, if_pos hm, aha]
    have hfL : min (a - i) cs.length ≤ cs.length := by omega
    have htL : max (min (b - i) cs.length) (min (a - i) cs.length) ≤ cs.length := by omega
    have hft : min (a - i) cs.length ≤ max (min (b - i) cs.length) (min (a - i) cs.length) := by omega
    have hd : min (b - i) cs.length - min (a - i) cs.length = max (min (b - i) cs.length) (min (a - i) cs.length) - min (a - i) cs.length := by omega
    rw [hd]
    generalize min (a - i) cs.length = f at *
    generalize max (min (b - i) cs.length) f = t at *
    by_cases hft' : (f : Int) = (t : Int)
    · obtain rfl : f = t := by omega
      rw [if_pos (by simp)]
      refine ⟨[n], ?_, hone.1, ?_, hone.2, by simp⟩
      · rw [Nat.sub_self, V9]
      · rw [htl, htk, List.drop_take_self, List.map_nil, List.nil_append, ← List.map_append, List.take_append_drop]
    · rw [if_neg (by simpa using hft'), kG (by omega), kG (by omega)]
      have n1 : ((i : Int) + (f : Int)) = ((i + f : Nat) : Int) := by omega
      have n2 : ((i : Int) + (t : Int)) = ((i + f + (t - f) : Nat) : Int) := by omega
      rw [n1, n2, arA _ _ _ _ _ _ o i (i + f) (t - f) (by omega) (by omega) ho (by omega)]
      simp only [Option.bind_some]
      have z0 : (0 : Int) = ((0 : Nat) : Int) := rfl
      rw [z0, ajh n _ cs 0 f (by omega) hfL, ajh n _ cs f t hft htL, ajh n _ cs t cs.length htL (Nat.le_refl _), hk]
      simp only [Option.bind_some, List.drop_zero, List.take_length]
      have v1 : ∀ c ∈ cs.take f, VR c := fun c hc => hcs c (List.mem_of_mem_take hc)
      have v2 : ∀ c ∈ (cs.take t).drop f, VR c := fun c hc => hcs c (List.mem_of_mem_take (List.mem_of_mem_drop hc))
      have v3 : ∀ c ∈ cs.drop t, VR c := fun c hc => hcs c (List.mem_of_mem_drop hc)
      obtain ⟨p1, q1, w1⟩ := ai9 n.Marks v1 t3
      obtain ⟨p2, q2, w2⟩ := ai9 (mkS k x n.Marks) v2 hmr
      obtain ⟨p3, q3, w3⟩ := ai9 n.Marks v3 t3
      refine ⟨_, rfl, ?_, ?_, ?_, by simp⟩
      · intro p hp
        simp only [List.mem_cons, List.not_mem_nil, or_false] at hp
        rcases hp with rfl | rfl | rfl
        · exact ⟨by simp [isT], q1.imp id fun h => ⟨h, rfl, rfl⟩⟩
        · exact ⟨by simp [isT], q2.imp id fun h => ⟨h, rfl, rfl⟩⟩
        · exact ⟨by simp [isT], q3.imp id fun h => ⟨h, rfl, rfl⟩⟩
      · simp only [tkL, p1, p2, p3, List.append_nil]
      · have hl : zN cs = zN (cs.take f) ++ (zN ((cs.take t).drop f) ++ zN (cs.drop t)) := by
          rw [← abj, ← abj]
          congr 1
          have h1 : cs.take f = (cs.take t).take f := by rw [List.take_take]; congr 1; omega
          rw [← List.append_assoc, h1, List.take_append_drop, List.take_append_drop]
        have hlen := congrArg List.length hl
        rw [hval] at hlen
        simp only [List.length_append] at hlen
        simp only [zU, w1, w2, w3]
        omega
theorem aaI : ∀ (l o : List za), yJ o → (∀ p ∈ l, qK p = true ∨ (isT p = true ∧ p.Text = [] ∧ p.zu = [] ∧ p.Kids = [])) → yJ (l.foldl joinStep o) ∧ tkL (l.foldl joinStep o) = tkL o ++ tkL l
  | [], o, ho, _ => ⟨ho, by simp [tkL]⟩
  | p :: l, o, ho, h => by
    rw [List.foldl_cons]
    rcases h p (by simp) with hp | ⟨h1, h2, h3, h4⟩
    · obtain ⟨g1, g2⟩ := aaI l _ (agG o p ho hp) fun y hy => h y (by simp [hy])
      refine ⟨g1, ?_⟩
      have hi := (afN o p ho.gd (ana hp)).1
      have : tkL (joinStep o p) = tkL o ++ tkN p := by rw [← Ke, hi, amk, Ke, amx]
      rw [g2, this, tkL, List.append_assoc]
    · have e : joinStep o p = o := by unfold joinStep; rw [if_pos (by simp [h1, h2])]
      have e2 : tkN p = [] := by rw [jU, if_pos h1, h2, Jb]; rfl
      rw [e]
      obtain ⟨g1, g2⟩ := aaI l o ho fun y hy => h y (by simp [hy])
      exact ⟨g1, by rw [g2, tkL, e2, List.nil_append]⟩
theorem am9 (k : Int) {x : Str} (hx : isName x = true) (a b : Nat) (ha : a ≤ 2000000) (hb : b ≤ 2000000) (N : List za) (v : Str) (r : List za → Int → Int → Int → Int → List za → Str → Str → List zo → Option (List za × Int × Int × Int × List za × Str × Str × List zo)) :
    ∀ (l : List za) (j : Int) (i : Nat) (out : List za) (o : List zo), (∀ y ∈ l, qK y = true) →
      (∀ y ∈ l, isT y = false → ∀ (i : Nat) (o : List zo), RgOk i o → i + qi y.Kids ≤ 1000000 → ∃ out, r y.Kids (i : Int) k (a : Int) (b : Int) N x v o = some (out, k, (a : Int), (b : Int), N, x, v, WR k x a b i (tkL y.Kids) o) ∧ yJ out ∧ tkL out = qd k x a b i (tkL y.Kids) ∧ zU out + 21 * qi y.Kids ≤ 24 * zU y.Kids) →
      RgOk i o → i + qi l ≤ 1000000 → zU l ≤ 10000000 → x.length ≤ 20 → (∀ p ∈ out, qK p = true ∨ (isT p = true ∧ p.Text = [] ∧ p.zu = [] ∧ p.Kids = [])) → (out.length + 3 * l.length) ≤ 1000000000 →
      ∃ out', zX r l j (i : Int) out k (a : Int) (b : Int) N x v o = some (out ++ out', k, (a : Int), (b : Int), N, x, v, WR k x a b i (tkL l) o) ∧ (∀ p ∈ out', qK p = true ∨ (isT p = true ∧ p.Text = [] ∧ p.zu = [] ∧ p.Kids = [])) ∧ tkL out' = qd k x a b i (tkL l) ∧ zU out' + 21 * qi l ≤ 24 * zU l
  | [], j, i, out, o, _, _, _, _, _, _, _, _ => ⟨[], by simp [zX, WR, tkL], by simp, by simp [tkL, qd], by simp [zU, qi]⟩
  | y :: l, j, i, out, o, hf, hr, ho, hs, hw, hxl, hp, hln => by
    have hy := hf y (by simp)
    have hsz := size_pos hy
    simp only [qi] at hs
    simp only [zU] at hw
    have hyw := ako y
    rw [zX, size_eq y (by omega)]
    simp only [Option.bind_some]
    rw [aqH, kG (x := (i : Int) + (kL y : Int)) (by omega)]
    have e1 : ((i : Int) + (kL y : Int)) = ((i + kL y : Nat) : Int) := by omega
    have hlen := amK y
    rw [e1]
    have go : ∀ (P : List za) (o' : List zo), (∀ p ∈ P, qK p = true ∨ (isT p = true ∧ p.Text = [] ∧ p.zu = [] ∧ p.Kids = [])) → o' = WR k x a b i (tkN y) o → tkL P = qd k x a b i (tkN y) → zU P + 21 * kL y ≤ 24 * nwt y → P.length ≤ 3 → ∃ out', zX r l (j + 1) ((i + kL y : Nat) : Int) (out ++ P) k (a : Int) (b : Int) N x v o' = some (out ++ out', k, (a : Int), (b : Int), N, x, v, WR k x a b i (tkL (y :: l)) o) ∧ (∀ p ∈ out', qK p = true ∨ (isT p = true ∧ p.Text = [] ∧ p.zu = [] ∧ p.Kids = [])) ∧ tkL out' = qd k x a b i (tkL (y :: l)) ∧ zU out' + 21 * qi (y :: l) ≤ 24 * zU (y :: l) := by
      intro P o' h1 h2 h3 h4 h5
      subst h2
      obtain ⟨Q, q1, q2, q3, q4⟩ := am9 k hx a b ha hb N v r l (j + 1) (i + kL y) (out ++ P) (WR k x a b i (tkN y) o) (fun z hz => hf z (by simp [hz])) (fun z hz => hr z (by simp [hz])) (by have := ap7 k x a b (tkN y) i o ho; rw [hlen] at this; exact this) (by omega) (by omega) hxl (fun p hp' => by
        rcases List.mem_append.1 hp' with h | h
        · exact hp p h
        · exact h1 p h) (by simp only [List.length_append, List.length_cons] at hln ⊢; omega)
      refine ⟨P ++ Q, ?_, fun p hp' => ?_, ?_, ?_⟩
      · rw [q1, tkL, afR, hlen, List.append_assoc]
      · rcases List.mem_append.1 hp' with h | h
        · exact h1 p h
        · exact q2 p h
      · rw [amG, h3, q3, tkL, acX, hlen]
      · rw [ZM]; simp only [qi, zU]; omega
    by_cases ht : isT y = true
    · rw [if_pos ht]
      obtain ⟨P, g1, g2, g3, g4, g5⟩ := aqE hy ht k hx a b i ha hb (by omega) N v o ho (by omega)
      rw [g1]
      simp only [Option.bind_some]
      rw [jd (by simp only [List.length_cons] at hln; omega)]
      simp only [Option.bind_some]
      have hyw6 : 6 + kL y ≤ nwt y := by
        have := wQ y
        have hk := XI ht
        have h2 := aiP y.Text
        have h3 : kL y = agA y.Text := by rw [xu, if_pos ht]
        rw [hk] at this
        simp only [jf, List.length_cons, List.length_nil] at this
        omega
      have hb2 : zU P + 21 * kL y ≤ 24 * nwt y := by omega
      exact go P _ (fun p hp' => (g2 p hp').2.imp id fun h => ⟨(g2 p hp').1, h⟩) rfl g3 hb2 g5
    · have ht' : isT y = false := by simpa using ht
      rw [if_neg ht]
      have hsy := Ym ht'
      obtain ⟨Q, g1, g2, g3, g4⟩ := hr y (by simp) ht' (i + 1) o (ho.mono (by omega)) (by omega)
      have e2 : w64 ((i : Int) + 1) = ((i + 1 : Nat) : Int) := by rw [kG (by omega)]; omega
      rw [e2, g1]
      simp only [Option.bind_some]
      rw [jd (by simp only [List.length_cons, List.length_nil] at hln ⊢; omega)]
      simp only [Option.bind_some]
      have hfy := ahm hy ht' g2
      have hty : isT ({ y with Kids := Q } : za) = false := ht'
      have htk : tkN y = Tk.opn y.Kind y.zu :: (tkL y.Kids ++ [Tk.cls]) := by rw [jU, if_neg (by simp [ht'])]
      refine go [{ y with Kids := Q }] _ (fun p hp' => ?_) ?_ ?_ ?_ (by simp)
      · rw [List.mem_singleton] at hp'
        subst hp'
        exact .inl hfy
      · rw [htk, WR, afR]
        rfl
      · simp only [tkL, List.append_nil]
        rw [jU, if_neg (by simp [hty]), htk, qd, acX, aeK, g3]
        rfl
      · have w1 := wQ y
        have w2 := wQ ({ y with Kids := Q } : za)
        simp only at w2
        simp only [zU]
        omega
theorem al8 (k : Int) {x : Str} (hx : isName x = true) (hxl : x.length ≤ 20) (a b : Nat) (ha : a ≤ 2000000) (hb : b ≤ 2000000) (N : List za) (v : Str) : ∀ (kr : Nat) (l : List za), yJ l → xk l < kr → ∀ (i : Nat) (o : List zo), RgOk i o → i + qi l ≤ 1000000 → zU l ≤ 10000000 → ∃ out, qo kr l (i : Int) k (a : Int) (b : Int) N x v o = some (out, k, (a : Int), (b : Int), N, x, v, WR k x a b i (tkL l) o) ∧ yJ out ∧ tkL out = qd k x a b i (tkL l) ∧ zU out + 21 * qi l ≤ 24 * zU l
  | 0, l, _, h, _, _, _, _, _ => by omega
  | kr + 1, l, hl, hd, i, o, ho, hs, hw => by
    have hlen := kM l
    obtain ⟨P, h1, h2, h3, h4⟩ := am9 k hx a b ha hb N v (qo kr) l 0 i [] o hl.form (fun y hy ht i o ho hs => by
      have hm := Zc hy
      have hw2 := Z7 hy
      have hk := acO y
      rw [ZU] at hm
      exact al8 k hx hxl a b ha hb N v kr y.Kids (Q4 (hl.form y hy) ht) (by omega) i o ho hs (by omega)) ho hs hw hxl (by simp) (by simp; omega)
    rw [qo, kK (by omega), h1]
    simp only [Option.bind_some, List.nil_append]
    rw [aqr P (by omega)]
    obtain ⟨g1, g2⟩ := aaI P [] .nil h2
    have hj := akd P
    refine ⟨Wz P, rfl, g1, ?_, by omega⟩
    show tkL (P.foldl joinStep []) = _
    rw [g2, h3]
    rfl
theorem aol {n : za} {T : List Tk} (h : TD n T) (k : Int) {x : Str} (hx : isName x = true) (hxl : x.length ≤ 20) (a b : Nat) (hab : a ≤ 2000000) (hb : b ≤ T.length) (hw : wD n T ≤ 5000000) :
    ∃ N, Zh n ⟨k, (a : Int), (b : Int), [], x, []⟩ = some (N, WR k x a b 0 T [], 0) ∧ TD N (qd k x a b 0 T) ∧ N.Kind = n.Kind ∧ N.zu = n.zu := by
  have hs := h.small
  have hl := h.len
  have hwt := h.wt
  have hwk := acO n
  obtain ⟨out, h1, h2, h3, h4⟩ : ∃ out, vO n.Kids 0 k (a : Int) (b : Int) [] x [] [] = some (out, k, (a : Int), (b : Int), [], x, [], WR k x a b 0 (tkL n.Kids) []) ∧ yJ out ∧ tkL out = qd k x a b 0 (tkL n.Kids) ∧ zU out + 21 * qi n.Kids ≤ 24 * zU n.Kids := by
    obtain ⟨out, h1, h2⟩ := al8 k hx hxl a b hab (by omega) [] [] (xk n.Kids + 1) n.Kids h.row (by omega) 0 [] ⟨by simp, by simp⟩ (by omega) (by omega)
    refine ⟨out, ?_, h2⟩
    unfold vO
    refine Jr (xk n.Kids + 1) fun kr hk => ?_
    obtain ⟨out', g1, g2, g3, _⟩ := al8 k hx hxl a b hab (by omega) [] [] kr n.Kids h.row (by omega) 0 [] ⟨by simp, by simp⟩ (by omega) (by omega)
    have e : out' = out := amW g2 h2.1 (by rw [g3, h2.2.1])
    subst e
    exact g1
  rw [h.tk] at h1 h3
  refine ⟨{ n with Kids := out }, ?_, TD.of (ahm h.form h.nt h2) h.nt h3 (by rw [JG]; exact h.deep) (by rw [ads]; exact hs), rfl, rfl⟩
  unfold Zh
  rw [ak0 n.Kids (by omega)]
  simp only [Option.bind_some]
  rw [if_neg (by simp; omega), h1]
  rfl
end Go.Proofs.YtclohbgnaopjfaaDoor
namespace Go.Proofs.YtclohbgnaopjfaaDoor
set_option linter.unusedSimpArgs false
set_option linter.unusedVariables false
open Go
abbrev xN (l : List za) : za := ⟨[120], [], [], [], l⟩
theorem atW (l : List za) : nwt (xN l) = zU l + 3 := by
 rw [wQ]; simp [wL, vg]; omega
end Go.Proofs.YtclohbgnaopjfaaDoor
namespace Go.Proofs.YtclohbgnaopjfaaDoor
set_option linter.unusedSimpArgs false
set_option linter.unusedVariables false
open Go
def adx (f t : Int) : Bool := decide (0 ≤ f) && (decide (f ≤ t) && decide (t ≤ 1048576))
def srB (s : zD) : Bool :=
 if s.Kind = 114 then adx s.From s.To && (qK (xN s.wM) && (s.Name == [] && s.Value == []))
 else if s.Kind = 97 then decide (-1 ≤ s.From) && (decide (s.From ≤ 1048576) && (decide (s.To = 0) && (isName s.Name && (isValue s.Value && s.wM.isEmpty))))
 else if s.Kind = 109 ∨ s.Kind = 117 then adx s.From s.To && (isName s.Name && (s.wM.isEmpty && s.Value == []))
 else false
theorem arE (f t : Int) : ((if (decide (f ≥ (0 : Int))) = true then if (decide (f ≤ t)) = true then some (decide (t ≤ (1048576 : Int))) else some false else some false) : Option Bool) = some (adx f t) := by
 unfold adx
 by_cases a : f ≥ 0
 ·by_cases b : f ≤ t
  ·have : (0 : Int) ≤ f := a
   simp [b, this]
  ·have : (0 : Int) ≤ f := a
   simp [b, this]
 ·have : ¬ (0 : Int) ≤ f := a
  simp [this]
theorem anm (n : za) : (checkN n != (2 : Int)) = qK n := by
 unfold checkN
 cases qK n with
 | false => rfl
 | true =>
  simp only [Bool.true_eq_false, if_false]
  split
  ·rfl
  ·split <;> rfl
theorem adf {α : Type} (l : List α) : ((l.length : Int) == (0 : Int)) = l.isEmpty := by
 cases l with
 | nil => rfl
 | cons x l =>
  simp only [List.length_cons, List.isEmpty_cons, beq_eq_false_iff_ne, ne_eq]
  omega
theorem aof (a b : Str) : ((a ++ b) == ([] : Str)) = (a == [] && b == []) := by
 cases a <;> cases b <;> rfl
theorem agQ (s : zD) (hw : zU s.wM ≤ 268435400) (h1 : s.Name.length ≤ 1048576) (h2 : s.Value.length ≤ 1048576) : Zj s = some (srB s) := by
  obtain ⟨k, f, t, l, n, v⟩ := s
  simp only at hw h1 h2
  have hxw := atW l
  unfold Zj srB
  simp only
  rw [arE]
  simp only [Option.bind_some]
  by_cases hk : k = 114
  · subst hk
    rw [if_pos (by decide), akN (xN l) (by omega), if_pos rfl]
    simp only [Option.bind_some]
    rw [anm, kK (by omega), aof]
    cases adx f t <;> cases qK (xN l) <;> rfl
  · rw [if_neg (by simpa using hk), if_neg hk]
    by_cases hk2 : k = 97
    · subst hk2
      rw [if_pos (by decide), if_pos rfl, abh n (by omega), ajT v (by omega), adf]
      simp only [Option.bind_some]
      have e1 : decide (f ≥ -1) = decide (-1 ≤ f) := rfl
      have e2 : (t == 0) = decide (t = 0) := by by_cases h : t = 0 <;> simp [h]
      rw [e1, e2]
      cases decide (-1 ≤ f) <;> cases decide (f ≤ 1048576) <;> cases decide (t = 0) <;> cases isName n <;> cases isValue v <;> rfl
    · rw [if_neg (by simpa using hk2), if_neg hk2]
      by_cases hk3 : k = 109
      · subst hk3
        rw [if_pos (by decide), if_pos (show (109 : Int) = 109 ∨ (109 : Int) = 117 from .inl rfl), abh n (by omega), adf]
        simp only [Option.bind_some]
        cases adx f t <;> cases isName n <;> cases l.isEmpty <;> rfl
      · rw [if_neg (by simpa using hk3)]
        by_cases hk4 : k = 117
        · subst hk4
          rw [if_pos (by decide), if_pos (show (117 : Int) = 109 ∨ (117 : Int) = 117 from .inr rfl), abh n (by omega), adf]
          simp only [Option.bind_some]
          cases adx f t <;> cases isName n <;> cases l.isEmpty <;> rfl
        · rw [if_neg (by simpa using hk4), if_neg (by omega)]
end Go.Proofs.YtclohbgnaopjfaaDoor
namespace Go.Proofs.YtclohbgnaopjfaaDoor
set_option linter.unusedSimpArgs false
set_option linter.unusedVariables false
open Go
end Go.Proofs.YtclohbgnaopjfaaDoor
namespace Go.Proofs.YtclohbgnaopjfaaDoor
set_option linter.unusedSimpArgs false
set_option linter.unusedVariables false
open Go Classical
theorem aq0 {n : za} (h : isT n = false) : (n.Kind == ([116, 101, 120, 116] : Str)) = false := h
theorem alA {n : za} {T : List Tk} (h : TD n T) (hw : wD n T ≤ 100000000) (s : zD) (hs : Zj s = some true) : kE n s = if (s.Kind == (114 : Int)) = true then (Yi n s.From s.To s.wM).bind fun (r_5, r_6) => some (r_5, r_6) else if (s.Kind == (97 : Int)) = true then (ab3 n s).bind fun (r_7, r_8, r_9) => some (r_7, r_9) else (Zh n s).bind fun (V8, abU, aek) => some (V8, aek) := by
  have hwt := h.wt
  unfold kE
  rw [hs]
  simp only [Option.bind_some, Bool.not_true, Bool.false_eq_true, if_false]
  rw [aq0 h.nt]
  simp only [Bool.false_eq_true, if_false]
  rw [right_eq n (by omega), h.ok]
  simp only [Option.bind_some, beq_self_eq_true, Bool.not_true, Bool.false_eq_true, if_false]
theorem alp {k : Int} (hk : k = 109 ∨ k = 117) {x : Str} (hx : isName x = true) (hl : x.length ≤ 20) {f t : Nat} (hft : f ≤ t) (ht : t ≤ 1048576) : Zj ⟨k, (f : Int), (t : Int), [], x, []⟩ = some true := by
  rw [agQ _ (by simp [zU]) (by simp only; omega) (by simp)]
  unfold srB adx
  simp only
  rw [if_neg (by omega), if_neg (by omega), if_pos hk, hx]
  simp
  omega
theorem aav {n : za} {T : List Tk} (h : TD n T) (hw : wD n T ≤ 5000000) {k : Int} (hk : k = 109 ∨ k = 117) {x : Str} (hx : isName x = true) (hxl : x.length ≤ 20) {a b : Nat} (hab : a ≤ b) (hb : b ≤ T.length) :
    ∃ N, kE n ⟨k, (a : Int), (b : Int), [], x, []⟩ = some (N, 0) ∧ Zh n ⟨k, (a : Int), (b : Int), [], x, []⟩ = some (N, WR k x a b 0 T [], 0) ∧ TD N (qd k x a b 0 T) ∧ N.Kind = n.Kind ∧ N.zu = n.zu := by
  have hsm := h.small
  obtain ⟨N, h1, h2, h3, h4⟩ := aol h k hx hxl a b (by omega) hb hw
  refine ⟨N, ?_, h1, h2, h3, h4⟩
  rw [alA h (by omega) _ (alp hk hx hxl hab (by omega))]
  simp only
  rw [if_neg (by simp; omega), if_neg (by simp; omega), h1]
  rfl
end Go.Proofs.YtclohbgnaopjfaaDoor
namespace Go.Proofs.YtclohbgnaopjfaaDoor
set_option linter.unusedSimpArgs false
set_option linter.unusedVariables false
open Go
mutual
def Kk : za → Str
 | ⟨k, t, _, _, ks⟩ => if (k == jf) = true then t else Z5 ks
def Z5 : List za → Str
 | [] => []
 | n :: l => Kk n ++ Z5 l
end
theorem VQ (n : za) : Kk n = if isT n = true then n.Text else Z5 n.Kids := by cases n; simp only [Kk, isT]; rfl
theorem agi : ∀ (l : List za), (∀ n ∈ l, (Kk n).length ≤ nwt n) → (Z5 l).length ≤ zU l
 | [], _ => by simp [Z5, zU]
 | n :: l, h => by
  have h1 := h n (by simp)
  have h2 := agi l fun x hx => h x (by simp [hx])
  simp only [Z5, zU, List.length_append]; omega
theorem ahx (n : za) : (Kk n).length ≤ nwt n := by
 induction n using za.ind with
 | h n ih =>
  have h1 := agi n.Kids ih
  have h2 := wQ n
  rw [VQ]
  split <;> omega
theorem akp (f : za → Str → Option Str) : ∀ (l : List za) (i : Int) (acc : Str), (∀ k ∈ l, ∀ a : Str, a.length + nwt k ≤ 1099511627776 → f k a = some (a ++ Kk k)) → acc.length + zU l ≤ 1099511627776 →
    wS f l i acc = some (acc ++ Z5 l)
  | [], i, acc, _, _ => by simp [wS, Z5]
  | n :: l, i, acc, h, hb => by
    simp only [zU] at hb
    have hle := ahx n
    rw [wS, h n (by simp) acc (by omega)]
    simp only [Option.bind_some]
    rw [akp f l _ _ (fun k hk => h k (by simp [hk])) (by simp; omega)]
    simp [Z5]
theorem aqG (n : za) : ∀ kr, Wt n ≤ kr → ∀ acc : Str, acc.length + nwt n ≤ 1099511627776 → wJ kr n acc = some (acc ++ Kk n) := by
  induction n using za.ind with
  | h n ih =>
    intro kr hk acc hw
    have hd := ZU n
    obtain ⟨kr, rfl⟩ : ∃ j, kr = j + 1 := ⟨kr - 1, by omega⟩
    have hwt := wQ n
    have hl := kM n.Kids
    rw [wJ, QM]
    simp only [Option.bind_some]
    by_cases ht : isT n = true
    · simp only [ht, if_true]
      have h1 : qY n.Text acc = some ((n.Text.length : Int), acc ++ n.Text) := by
        unfold qY ky
        simp only [Option.bind_some]
        rw [jd (by omega)]
        rfl
      rw [h1, VQ, if_pos ht]
      rfl
    · simp only [ht, Bool.false_eq_true, if_false]
      rw [kK (by omega), akp (wJ kr) n.Kids 0 acc (fun k hkk a ha => ih k hkk kr (by have := Zc hkk; omega) a ha) (by omega), VQ, if_neg ht]
      rfl
theorem aoA (n : za) (h : nwt n ≤ 1099511627776) : Zi n = some (Kk n) := by
  have h1 : xX n [] = some ([] ++ Kk n) := by
    unfold xX
    exact Jr (Wt n) fun kr hk => aqG n kr hk [] (by simpa using h)
  have h2 := ahx n
  unfold Zi kU
  rw [h1]
  simp only [Option.bind_some, List.nil_append]
  rw [kK (by omega)]
  rfl
end Go.Proofs.YtclohbgnaopjfaaDoor
namespace Go.Proofs.YtclohbgnaopjfaaDoor
set_option linter.unusedSimpArgs false
set_option linter.unusedVariables false
open Go
theorem ahp : ∀ l : List Str, l.length ≤ wL l
 | [] => by simp
 | s :: l => by have := ahp l; simp only [wL, List.length_cons]; omega
theorem aeO : ∀ l : List zg, l.length ≤ vg l
 | [] => by simp
 | s :: l => by have := aeO l; simp only [vg, List.length_cons]; omega
theorem akh : ∀ (suf pre : List Str) (i : Int), i = (pre.length : Int) → zW (pre ++ suf) suf i = some (.inr ())
 | [], pre, i, hi => rfl
 | y :: suf, pre, i, hi => by
  rw [zW, hi, Jf]
  have := akh suf (pre ++ [y]) (pre.length + 1) (by simp)
  simp only [List.append_assoc, List.cons_append, List.nil_append] at this
  simp [this]
theorem eqStr (l : List Str) (h : l.length ≤ 9223372036854775807) : slices_Equal_string l l = some true := by
 unfold slices_Equal_string
 have := akh l [] 0 rfl
 simp only [List.nil_append] at this
 rw [kK h, this]
 simp
theorem ahE : ∀ (suf pre : List zg) (i : Int), i = (pre.length : Int) → qD (pre ++ suf) suf i = some (.inr ())
 | [], pre, i, hi => rfl
 | y :: suf, pre, i, hi => by
  rw [qD, hi, Jf]
  have := ahE suf (pre ++ [y]) (pre.length + 1) (by simp)
  simp only [List.append_assoc, List.cons_append, List.nil_append] at this
  simp [this]
theorem aso (l : List zg) (h : l.length ≤ 9223372036854775807) : kP l l = some true := by
 unfold kP
 have := ahE l [] 0 rfl
 simp only [List.nil_append] at this
 rw [kK h, this]
 simp
theorem ahB (f : za → za → Option Bool) : ∀ (suf pre : List za) (i : Int), i = (pre.length : Int) → (∀ k ∈ suf, f k k = some true) → zM (pre ++ suf) f suf i = some (.inr ())
  | [], pre, i, hi, _ => rfl
  | y :: suf, pre, i, hi, h => by
    rw [zM, hi, Jf]
    have := ahB f suf (pre ++ [y]) (pre.length + 1) (by simp) fun k hk => h k (by simp [hk])
    simp only [List.append_assoc, List.cons_append, List.nil_append] at this
    simp [this, h y (by simp)]
theorem asQ (n : za) : nwt n ≤ 1099511627776 → ∀ kr, 2 * Wt n ≤ kr → jE kr n n = some true := by
  induction n using za.ind with
  | h n ih =>
    intro hw kr hk
    have hd := ZU n
    obtain ⟨kr, rfl⟩ : ∃ j, kr = j + 1 + 1 := ⟨kr - 2, by omega⟩
    have hwt := wQ n
    have hl := kM n.Kids
    have hs := ahp n.Marks
    have ha := aeO n.zu
    have hf := ahB (jE kr) n.Kids [] 0 rfl fun k hkk => ih k hkk (by have := Z7 hkk; omega) kr (by have := Zc hkk; omega)
    simp only [List.nil_append] at hf
    rw [jE]
    simp only [beq_self_eq_true, if_true]
    rw [eqStr _ (by omega), aso _ (by omega)]
    simp only [Option.bind_some, if_true]
    rw [zZ]
    simp only [bne_self_eq_false, Bool.false_eq_true, if_false]
    rw [kK (by omega), hf]
    rfl
theorem aps (n : za) (h : nwt n ≤ 1099511627776) : Zt n n = some true := by
 unfold Zt
 exact Jr (2 * Wt n) fun k hk => asQ n h k hk
end Go.Proofs.YtclohbgnaopjfaaDoor
namespace Go.Proofs.YtclohbgnaopjfaaDoor
set_option linter.unusedSimpArgs false
set_option linter.unusedVariables false
open Go Classical
inductive Does : za → List zD → za → Prop
 | nil (n : za) : Does n [] n
 | cons (n a b : za) (s : zD) (l : List zD) (h1 : kE n s = some (a, 0)) (h2 : Does a l b) : Does n (s :: l) b
theorem arZ {n b : za} {l : List zD} (h : Does n l b) : ∀ v, xU l v n = some (.inr b) := by
  induction h with
  | nil n => intro v; rfl
  | cons n a b s l h1 h2 ih =>
    intro v
    rw [xU, h1]
    simp only [Option.bind_some]
    rw [if_neg (by decide), ih]
theorem aqp {n b : za} {l : List zD} (h : Does n l b) (hl : l.length ≤ 9223372036854775807) : Z9 n l = some (b, 0) := by
 unfold Z9
 rw [kK hl, arZ h]
 rfl
theorem aeH {n a b : za} {x y : zD} (h1 : kE n x = some (a, 0)) (h2 : kE a y = some (b, 0)) : Z9 n [x, y] = some (b, 0) :=
 aqp (.cons _ _ _ _ _ h1 (.cons _ _ _ _ _ h2 (.nil _))) (by simp)
theorem Does.app {n a b : za} {l r : List zD} (h : Does n l a) (h2 : Does a r b) : Does n (l ++ r) b := by
 induction h with
 | nil n => exact h2
 | cons n a' b' s l h1 _ ih => exact .cons _ _ _ _ _ h1 (ih h2)
def TOk (T : List Tk) : Prop := ∀ c m, Tk.sgn c m ∈ T → jm m = true
theorem aio : ∀ (l : List za), (∀ n ∈ l, TOk (tkN n)) → TOk (tkL l)
  | [], _ => by intro c m h; simp [tkL] at h
  | n :: l, h => by
    intro c m hc
    rw [tkL, List.mem_append] at hc
    rcases hc with hc | hc
    · exact h n (by simp) c m hc
    · exact aio l (fun x hx => h x (by simp [hx])) c m hc
theorem apN (n : za) : qK n = true → TOk (tkN n) := by
 induction n using za.ind with
 | h n ih =>
  intro hf c m hc
  rw [jU] at hc
  cases ht : isT n with
  | true =>
   rw [if_pos ht, List.mem_map] at hc
   obtain ⟨x, _, hx⟩ := hc
   cases hx
   exact (xw hf ht).2.2.1
  | false =>
   have hr := Q4 hf ht
   simp only [ht, Bool.false_eq_true, if_false, List.mem_cons, reduceCtorEq, false_or, List.mem_append, List.not_mem_nil, or_false] at hc
   exact aio n.Kids (fun x hx => ih x hx (hr.form x hx)) c m hc
theorem TD.tok {n T} (h : TD n T) : TOk T := by rw [← h.tk]; exact aio _ fun x hx => apN x (h.row.form x hx)
theorem adu {k1 k2 k3 : Int} {x1 x2 x3 : Str} (a b : Nat) : ∀ (T : List Tk) (i : Nat), (∀ c m, Tk.sgn c m ∈ T → mkS k2 x2 (mkS k1 x1 m) = mkS k3 x3 m) → qd k2 x2 a b i (qd k1 x1 a b i T) = qd k3 x3 a b i T
  | [], i, _ => rfl
  | t :: T, i, h => by
    rw [qd, qd, qd, adu a b T (i + 1) fun c m hc => h c m (by simp [hc])]
    congr 1
    cases t with
    | sgn c m =>
      rw [Zf, Zf, Zf]
      by_cases hi : a ≤ i ∧ i < b
      · rw [if_pos hi, if_pos hi, if_pos hi, h c m (by simp)]
      · rw [if_neg hi, if_neg hi, if_neg hi]
    | opn k aa => rfl
    | cls => rfl
theorem afb {k1 k2 k3 k4 : Int} {x1 x2 x3 x4 : Str} (a b : Nat) : ∀ (T : List Tk) (i : Nat), (∀ c m, Tk.sgn c m ∈ T → mkS k2 x2 (mkS k1 x1 m) = mkS k4 x4 (mkS k3 x3 m)) → qd k2 x2 a b i (qd k1 x1 a b i T) = qd k4 x4 a b i (qd k3 x3 a b i T)
  | [], i, _ => rfl
  | t :: T, i, h => by
    rw [qd, qd, qd, qd, afb a b T (i + 1) fun c m hc => h c m (by simp [hc])]
    congr 1
    cases t with
    | sgn c m =>
      rw [Zf, Zf, Zf, Zf]
      by_cases hi : a ≤ i ∧ i < b
      · simp only [if_pos hi]
        rw [h c m (by simp)]
      · simp only [if_neg hi]
    | opn k aa => rfl
    | cls => rfl
theorem atY {x : Str} {m : List Str} (hm : jm m = true) (hx : isName x = true) : mkS 109 x (mkS 109 x m) = mkS 109 x m := by
 obtain ⟨a1, a2, _⟩ := acm hm hx
 obtain ⟨b1, b2, _⟩ := acm a1 hx
 refine Xc b1 a1 fun y => ?_
 rw [b2, a2]
 constructor
 ·rintro (h | h)
  ·exact .inl h
  ·exact h
 ·exact .inr
theorem asE {x : Str} {m : List Str} (hm : jm m = true) (hx : isName x = true) : mkS 117 x (mkS 109 x m) = mkS 117 x m := by
 obtain ⟨a1, a2, _⟩ := acm hm hx
 obtain ⟨b1, b2, _⟩ := ajc (k := 117) (by decide) a1 (x := x)
 obtain ⟨c1, c2, _⟩ := ajc (k := 117) (by decide) hm (x := x)
 refine Xc b1 c1 fun y => ?_
 rw [b2, c2, a2]
 constructor
 ·rintro ⟨h1, h2 | h2⟩
  ·exact absurd h2 h1
  ·exact ⟨h1, h2⟩
 ·rintro ⟨h1, h2⟩
  exact ⟨h1, .inr h2⟩
theorem aqV {x z : Str} {m : List Str} (hm : jm m = true) (hx : isName x = true) (hz : isName z = true) : mkS 109 z (mkS 109 x m) = mkS 109 x (mkS 109 z m) := by
 obtain ⟨a1, a2, _⟩ := acm hm hx
 obtain ⟨b1, b2, _⟩ := acm a1 hz
 obtain ⟨c1, c2, _⟩ := acm hm hz
 obtain ⟨d1, d2, _⟩ := acm c1 hx
 refine Xc b1 d1 fun y => ?_
 rw [b2, d2, a2, c2]
 constructor
 ·rintro (h | h | h)
  ·exact .inr (.inl h)
  ·exact .inl h
  ·exact .inr (.inr h)
 ·rintro (h | h | h)
  ·exact .inr (.inl h)
  ·exact .inl h
  ·exact .inr (.inr h)
def wT : List Tk → Str
 | [] => []
 | .sgn c _ :: l => zn c ++ wT l
 | _ :: l => wT l
theorem agx : ∀ a b : List Tk, wT (a ++ b) = wT a ++ wT b
 | [], b => rfl
 | .sgn c m :: a, b => by rw [List.cons_append, wT, wT, agx a b, List.append_assoc]
 | .opn k m :: a, b => by rw [List.cons_append, wT, wT, agx a b] <;> simp
 | .cls :: a, b => by rw [List.cons_append, wT, wT, agx a b] <;> simp
theorem amY (m : List Str) : ∀ l : List Int, wT (l.map fun c => Tk.sgn c m) = zN l
 | [] => rfl
 | c :: l => by rw [List.map_cons, wT, amY m l, QV]
theorem alK : ∀ (l : List za), (∀ n ∈ l, Kk n = wT (tkN n)) → Z5 l = wT (tkL l)
  | [], _ => rfl
  | n :: l, h => by rw [Z5, tkL, agx, h n (by simp), alK l fun x hx => h x (by simp [hx])]
theorem aq3 (n : za) : qK n = true → Kk n = wT (tkN n) := by
 induction n using za.ind with
 | h n ih =>
  intro hf
  rw [VQ, jU]
  cases ht : isT n with
  | true =>
   simp only [if_true]
   rw [amY, Wl (xw hf ht).2.1]
  | false =>
   have hr := Q4 hf ht
   simp only [Bool.false_eq_true, if_false]
   rw [alK n.Kids fun x hx => ih x hx (hr.form x hx), show ∀ l, wT (Tk.opn n.Kind n.zu :: l) = wT l from fun _ => rfl, agx]
   simp [wT]
theorem TD.words {n T} (h : TD n T) (hw : wD n T ≤ 100000000) : Zi n = some (wT T) := by
  have hwt := h.wt
  rw [aoA n (by omega), VQ, if_neg (by simp [h.nt]), alK _ fun x hx => aq3 x (h.row.form x hx), h.tk]
theorem abu (k : Int) (x : Str) (a b : Nat) : ∀ (T : List Tk) (i : Nat), wT (qd k x a b i T) = wT T
 | [], i => rfl
 | .sgn c m :: T, i => by rw [qd, Zf, wT, wT, abu k x a b T]
 | .opn c m :: T, i => by rw [qd, aeK]; exact abu k x a b T (i + 1)
 | .cls :: T, i => by rw [qd, aiy]; exact abu k x a b T (i + 1)
theorem TD.same {a b T} (ha : TD a T) (hb : TD b T) (hk : a.Kind = b.Kind) (hat : a.zu = b.zu) (hw : wD a T ≤ 100000000) : Zt a b = some true := by
 have := ha.ext hb hk hat
 subst this
 have hwt := ha.wt
 exact aps a (by omega)
theorem ar2 (W : Nat) : ∀ l : List za, (∀ n ∈ l, tw (tkN n) ≤ nwt n * (W + 10)) → tw (tkL l) ≤ zU l * (W + 10) := aiI W
theorem ash (W : Nat) (n : za) : (∀ c m, Tk.sgn c m ∈ tkN n → wL m ≤ W) → tw (tkN n) ≤ nwt n * (W + 10) := by
 induction n using za.ind with
 | h n ih =>
  intro hm
  have e := wQ n
  rw [jU] at hm ⊢
  cases ht : isT n with
  | true =>
   simp only [ht, if_true] at hm ⊢
   rw [aiU]
   have hr := aiP n.Text
   rw [← Kc] at hr
   by_cases h0 : runes n.Text = []
   ·rw [h0]; simp
   ·obtain ⟨c, l, hcl⟩ := List.exists_cons_of_ne_nil h0
    have hmm := hm c n.Marks (by rw [hcl]; simp)
    exact Nat.mul_le_mul (by omega) (by omega)
  | false =>
   simp only [ht, Bool.false_eq_true, if_false] at hm ⊢
   have h1 := aiI W n.Kids fun x hx => ih x hx fun c m hc => hm c m (by
    have : Tk.sgn c m ∈ tkL n.Kids := by
     obtain ⟨i, hi⟩ := List.mem_iff_getElem?.1 hx
     rw [ap5 hi]
     simp [hc]
    simp [this])
   simp only [tw, an5, afi]
   have h2 : (2 + n.Kind.length + vg n.zu) ≤ (2 + n.Kind.length + vg n.zu) * (W + 10) := Nat.le_mul_of_pos_right _ (by omega)
   have h3 : (2 + n.Kind.length + vg n.zu + zU n.Kids) * (W + 10) ≤ nwt n * (W + 10) := Nat.mul_le_mul_right _ (by omega)
   rw [Nat.add_mul] at h3
   omega
end Go.Proofs.YtclohbgnaopjfaaDoor
namespace Go.Proofs.YtclohbgnaopjfaaDoor
set_option linter.unusedSimpArgs false
set_option linter.unusedVariables false
open Go
def aaH (m : List Str) : Prop := m = [] ∨ m = [[98]] ∨ m = [[105]] ∨ m = [[98], [105]]
inductive BN : za → Prop
 | text (t : Str) (m : List Str) (h1 : t ≠ []) (h2 : Lib.validD t = true) (hm : aaH m) : BN ⟨jf, t, m, [], []⟩
 | node (k : Str) (a : List zg) (ks : List za) (hk : isName k = true) (h1 : a.all (fun x => isValue x.Value) = true) (h2 : jm (a.map (·.Name)) = true) (hs : ∀ x ∈ ks, BN x) (hj : jh ks) : BN ⟨k, [], [], a, ks⟩
theorem abb {k : Str} (h : isName k = true) : (k == jf) = false := by
 unfold isName at h
 simp only [Bool.and_eq_true, decide_eq_true_eq] at h
 simpa using h.2
theorem ajw {m : List Str} (h : aaH m) : jm m = true := by
 rcases h with rfl | rfl | rfl | rfl <;> decide +kernel
theorem ajv {m : List Str} (h : aaH m) : wL m ≤ 4 := by
 rcases h with rfl | rfl | rfl | rfl <;> simp [wL]
theorem anf : ∀ (l : List za) (last : Option za), (∀ x ∈ l, qK x = true) → jh l → (∀ x y, last = some x → l.head? = some y → vL x y = false) → xV last l = true
  | [], last, _, _, _ => aaD last
  | y :: l, last, hf, hj, hl => by
    rw [Q6, hf y (by simp)]
    have h2 : xV (some y) l = true := by
      refine anf l (some y) (fun x hx => hf x (by simp [hx])) ?_ ?_
      · cases l with
        | nil => trivial
        | cons z l => exact hj.2
      · intro x z hx hz
        cases hx
        cases l with
        | nil => cases hz
        | cons z' l => cases hz; exact hj.1
    rw [h2]
    cases last with
    | none => rfl
    | some x => simp [hl x y rfl rfl]
theorem aqR {n : za} (h : BN n) : qK n = true := by
 induction h with
 | text t m h1 h2 hm =>
  rw [jS]
  have h3 := ajw hm
  simp [isT, h1, h2, h3]
 | node k a ks hk h1 h2 hs hj ih =>
  rw [jS]
  have hkk : isT (⟨k, [], [], a, ks⟩ : za) = false := abb hk
  have h3 := anf ks none ih hj (fun x y hx => by cases hx)
  simp only [hkk, Bool.false_eq_true, if_false, h1, hk, h2, h3]
  decide
theorem aqW {n : za} (h : BN n) (ht : isT n = true) : n.Text ≠ [] ∧ Lib.validD n.Text = true ∧ aaH n.Marks ∧ n.zu = [] ∧ n.Kids = [] := by
 cases h with
 | text t m h1 h2 hm => exact ⟨h1, h2, hm, rfl, rfl⟩
 | node k a ks hk h1 h2 hs hj => rw [show isT (⟨k, [], [], a, ks⟩ : za) = false from abb hk] at ht; cases ht
theorem amI {n : za} (h : BN n) : (∀ x ∈ n.Kids, BN x) ∧ jh n.Kids := by
 cases h with
 | text t m h1 h2 hm => exact ⟨by simp, trivial⟩
 | node k a ks hk h1 h2 hs hj => exact ⟨hs, hj⟩
theorem afP : ∀ (o : List za) (x n : za), jh (o ++ [x]) → vL x n = false → jh (o ++ [x, n])
 | [], x, n, _, h => ⟨h, trivial⟩
 | [a], x, n, h1, h => ⟨h1.1, h, trivial⟩
 | a :: b :: o, x, n, h1, h => ⟨h1.1, afP (b :: o) x n h1.2 h⟩
theorem ahH : ∀ (o : List za) (x n : za), jh (o ++ [x]) → (∀ a, vL a x = vL a n) → jh (o ++ [n])
 | [], x, n, _, _ => trivial
 | [a], x, n, h1, h => ⟨by rw [← h]; exact h1.1, trivial⟩
 | a :: b :: o, x, n, h1, h => ⟨h1.1, ahH (b :: o) x n h1.2 h⟩
theorem alB : ∀ (l : List za), (∀ x ∈ l, isT x = false) → jh l
  | [], _ => trivial
  | [a], _ => trivial
  | a :: b :: l, h => ⟨by unfold vL; rw [h a (by simp)]; rfl, alB (b :: l) fun x hx => h x (by simp [hx])⟩
theorem an9 (o : List za) (n : za) (h : ∀ x ∈ o, BN x) (hj : jh o) (hn : BN n) : (∀ x ∈ joinStep o n, BN x) ∧ jh (joinStep o n) := by
  rcases wP o with rfl | ⟨o, x, rfl⟩
  · rw [kT]
    split
    · exact ⟨by simp, trivial⟩
    · exact ⟨by simpa using hn, trivial⟩
  · rw [wz]
    split
    · exact ⟨h, hj⟩
    · split
      · rename_i hc
        simp only [Bool.and_eq_true, decide_eq_true_eq] at hc
        obtain ⟨⟨h1, h2⟩, h3⟩ := hc
        have hx := h x (by simp)
        cases hn with
        | text t m ht hv hm =>
          cases hx with
          | text t' m' ht' hv' hm' =>
            simp only at h3
            subst h3
            refine ⟨fun y hy => ?_, ahH o _ _ hj fun a => rfl⟩
            rcases List.mem_append.1 hy with hy | hy
            · exact h y (by simp [hy])
            · simp at hy
              subst hy
              exact .text _ _ (by simp [ht']) (by rw [(adl t hv').2]; exact hv) hm
          | node k a ks hk ha hb hs hj' => rw [show isT (⟨k, [], [], a, ks⟩ : za) = false from abb hk] at h2; cases h2
        | node k a ks hk ha hb hs hj' => rw [show isT (⟨k, [], [], a, ks⟩ : za) = false from abb hk] at h1; cases h1
      · rename_i hc
        refine ⟨fun y hy => ?_, afP o x n hj ?_⟩
        · rcases List.mem_append.1 hy with hy | hy
          · exact h y (by simp [hy])
          · simp at hy
            rcases hy with rfl | rfl
            · exact h y (by simp)
            · exact hn
        · have hc' : (isT n && isT x && decide (x.Marks = n.Marks)) = false := by simpa using hc
          unfold vL
          rw [Bool.and_comm (isT x)]
          exact hc'
theorem arJ : ∀ (l o : List za), (∀ x ∈ o, BN x) → jh o → (∀ x ∈ l, BN x) → (∀ x ∈ l.foldl joinStep o, BN x) ∧ jh (l.foldl joinStep o)
 | [], o, h, hj, _ => ⟨h, hj⟩
 | n :: l, o, h, hj, hl => by
  obtain ⟨h1, h2⟩ := an9 o n h hj (hl n (by simp))
  exact arJ l _ h1 h2 fun x hx => hl x (by simp [hx])
theorem asX (l : List za) (h : ∀ x ∈ l, BN x) : (∀ x ∈ Wz l, BN x) ∧ jh (Wz l) := arJ l [] (by simp) trivial h
theorem VZ (a b : List za) : qX (a ++ b) = max (qX a) (qX b) := by
 induction a with
 | nil => simp [qX]
 | cons n a ih => simp only [List.cons_append, qX, ih]; omega
theorem ag2 (o : List za) (n : za) : qX (joinStep o n) ≤ max (qX o) (xG n) := by
 rcases wP o with rfl | ⟨o, x, rfl⟩
 ·rw [kT]
  split <;> simp [qX]
 ·rw [wz]
  split
  ·omega
  ·split
   ·rename_i hc
    simp only [Bool.and_eq_true] at hc
    have h1 : xG ({ n with Text := x.Text ++ n.Text } : za) = 0 := by rw [ZV, if_pos (show isT ({ n with Text := x.Text ++ n.Text } : za) = true from hc.1.1)]
    simp only [VZ, qX, h1]
    omega
   ·simp only [VZ, qX]
    omega
theorem ag8 : ∀ (l o : List za), qX (l.foldl joinStep o) ≤ max (qX o) (qX l)
 | [], o => by simp [qX]
 | n :: l, o => by
  have h1 := ag2 o n
  have h2 := ag8 l (joinStep o n)
  simp only [List.foldl_cons, qX]
  omega
theorem amg (l : List za) : qX (Wz l) ≤ qX l := by
 have := ag8 l []
 simpa [Wz, qX] using this
structure Book (ks : List za) : Prop where
 bn : ∀ x ∈ ks, BN x
 nt : ∀ x ∈ ks, isT x = false
 wt : zU ks ≤ 2400
 dep : qX ks ≤ 31
abbrev agE : Str := [100, 111, 99]
theorem aqD {ks : List za} (h : Book ks) : BN ⟨agE, [], [], [], ks⟩ := .node _ _ _ (by decide +kernel) rfl (by decide +kernel) h.bn (alB ks h.nt)
theorem alS {ks : List za} (h : Book ks) : checkN ⟨agE, [], [], [], ks⟩ = 0 := by
  have hf := aqR (aqD h)
  have hs := Jg ks
  have hw := h.wt
  have hdp := h.dep
  have e1 : xG ⟨agE, [], [], [], ks⟩ = qX ks + 1 := by rw [ZV]; rfl
  have e2 : kL ⟨agE, [], [], [], ks⟩ = 2 + qi ks := by rw [xu]; rfl
  unfold checkN
  rw [hf, e1, e2, if_neg (by simp), if_neg (by omega), if_neg (by omega)]
end Go.Proofs.YtclohbgnaopjfaaDoor
namespace Go.Proofs.YtclohbgnaopjfaaDoor
set_option linter.unusedSimpArgs false
set_option linter.unusedVariables false
open Go Classical
theorem ap6 (n : za) : BN n → ∀ c m, Tk.sgn c m ∈ tkN n → aaH m := by
  induction n using za.ind with
  | h n ih =>
    intro hb c m hc
    rw [jU] at hc
    cases ht : isT n with
    | true =>
      rw [if_pos ht, List.mem_map] at hc
      obtain ⟨x, _, hx⟩ := hc
      cases hx
      exact (aqW hb ht).2.2.1
    | false =>
      simp only [ht, Bool.false_eq_true, if_false, List.mem_cons, reduceCtorEq, false_or, List.mem_append, List.not_mem_nil, or_false] at hc
      have key : ∀ l : List za, (∀ x ∈ l, x ∈ n.Kids) → Tk.sgn c m ∈ tkL l → aaH m := by
        intro l
        induction l with
        | nil => intro _ h; simp [tkL] at h
        | cons y l ihl =>
          intro hl h
          rw [tkL, List.mem_append] at h
          rcases h with h | h
          · exact ih y (hl y (by simp)) ((amI hb).1 y (hl y (by simp))) c m h
          · exact ihl (fun x hx => hl x (by simp [hx])) h
      exact key n.Kids (fun _ h => h) hc
abbrev aqi (ks : List za) : za := ⟨agE, [], [], [], ks⟩
theorem arz {ks : List za} (h : Book ks) : TD (aqi ks) (tkL ks) ∧ wD (aqi ks) (tkL ks) ≤ 40000 := by
 refine ⟨⟨alS h, rfl, rfl⟩, ?_⟩
 have h1 := ar2 4 ks fun n hn => ash 4 n fun c m hc => ajv (ap6 n (h.bn n hn) c m hc)
 have := h.wt
 unfold wD
 simp only [vg, List.length_cons, List.length_nil]
 omega
end Go.Proofs.YtclohbgnaopjfaaDoor
namespace Go.Proofs.YtclohbgnaopjfaaDoor
set_option linter.unusedSimpArgs false
set_option linter.unusedVariables false
open Go
theorem ah2 (f : za → Option Int) : ∀ (l : List za) (i : Int) (d : Nat), (∀ k ∈ l, f k = some (xG k : Int)) → qA f l i (d : Int) = some ((max d (qX l) : Nat) : Int)
  | [], i, d, _ => by simp [qA, qX]
  | n :: l, i, d, h => by
    rw [qA, h n (by simp)]
    simp only [Option.bind_some]
    have e : (if (xG n : Int) > (d : Int) then (xG n : Int) else (d : Int)) = ((max d (xG n) : Nat) : Int) := by split <;> omega
    rw [e, ah2 f l _ _ fun k hk => h k (by simp [hk])]
    simp only [qX, Option.some.injEq]
    omega
theorem ape (n : za) : nwt n ≤ 1099511627776 → ∀ kr, Wt n ≤ kr → qw kr n = some (xG n : Int) := by
  induction n using za.ind with
  | h n ih =>
    intro hw kr hk
    have hd := ZU n
    obtain ⟨kr, rfl⟩ : ∃ j, kr = j + 1 := ⟨kr - 1, by omega⟩
    have hwt := wQ n
    have hl := kM n.Kids
    have hdl := ami n
    have hdw := amS n
    have en : (n.Kind == ([116, 101, 120, 116] : Str)) = isT n := rfl
    rw [qw, en]
    by_cases ht : isT n = true
    · simp [ht, ZV n]
    · have e := ZV n
      rw [if_neg ht] at e
      simp only [ht, Bool.false_eq_true, if_false]
      have h0 := ah2 (qw kr) n.Kids 0 0 (fun k hkk => ih k hkk (by have := Z7 hkk; omega) kr (by have := Zc hkk; omega))
      have h0' : qA (qw kr) n.Kids 0 0 = _ := h0
      rw [kK (by omega), h0']
      simp only [Option.bind_some, Nat.zero_max]
      rw [kG (by omega), e]
      rfl
theorem ahz (n : za) (h : nwt n ≤ 1099511627776) : vI n = some (xG n : Int) := by
 unfold vI
 exact Jr (Wt n) fun kr hk => ape n h kr hk
end Go.Proofs.YtclohbgnaopjfaaDoor
namespace Go.Proofs.YtclohbgnaopjfaaDoor
set_option linter.unusedSimpArgs false
set_option linter.unusedVariables false
open Go
theorem amf (x : Int) : -9223372036854775808 ≤ w64 x ∧ w64 x ≤ 9223372036854775807 := by
 show -9223372036854775808 ≤ IntKind.wrap .i64 x ∧ IntKind.wrap .i64 x ≤ 9223372036854775807
 rw [IntKind.wrap_i64]; omega
theorem aiM {α : Type} (l : List α) (p : Nat) (h : p < l.length) : ∃ x, rd l (p : Int) = some x ∧ x ∈ l := ⟨l[p], aiA (List.getElem?_eq_getElem h), List.getElem_mem h⟩
abbrev alh : List Str := [[97], [98, 99], [195, 169], [120, 32, 121], [230, 151, 165, 230, 156, 172]]
abbrev aeF : List Str := [[108, 101, 102, 116], [114, 105, 103, 104, 116]]
abbrev aie : List Str := [[], [195, 169], [34, 113, 92], [110, 111, 116, 101]]
abbrev Yc : Str := [97, 108, 105, 103, 110]
abbrev acZ : Str := [110, 111, 116, 101]
abbrev arR : Str := [112, 97, 114, 97]
abbrev adW : Str := [105, 116, 101, 109]
abbrev ahM : Str := [108, 105, 115, 116]
theorem aoO {t : Str} (h : t ∈ alh) : t ≠ [] ∧ Lib.validD t = true ∧ t.length ≤ 6 := by
 simp only [alh, List.mem_cons, List.not_mem_nil, or_false] at h
 rcases h with rfl | rfl | rfl | rfl | rfl <;> refine ⟨by simp, by decide +kernel, by simp⟩
theorem aoe {v w : Str} (hv : v ∈ aeF) (hw : w ∈ aie) : ([⟨Yc, v⟩, ⟨acZ, w⟩] : List zg).all (fun x => isValue x.Value) = true ∧ jm (([⟨Yc, v⟩, ⟨acZ, w⟩] : List zg).map (·.Name)) = true ∧ vg [⟨Yc, v⟩, ⟨acZ, w⟩] ≤ 20 := by
 refine ⟨?_, ?_, ?_⟩
 ·have h1 : isValue v = true := by
   simp only [aeF, List.mem_cons, List.not_mem_nil, or_false] at hv
   rcases hv with rfl | rfl <;> decide +kernel
  have h2 : isValue w = true := by
   simp only [aie, List.mem_cons, List.not_mem_nil, or_false] at hw
   rcases hw with rfl | rfl | rfl | rfl <;> decide +kernel
  simp [h1, h2]
 ·show jm [Yc, acZ] = true
  decide +kernel
 ·simp only [aeF, aie, List.mem_cons, List.not_mem_nil, or_false] at hv hw
  rcases hv with rfl | rfl <;> rcases hw with rfl | rfl | rfl | rfl <;> simp [vg]
theorem VL (c n : Int) (hc : -9223372036854775808 ≤ c ∧ c ≤ 9223372036854775807) (hn : 0 < n) : ∃ p : Nat, zR c n = some (p : Int) ∧ (p : Int) < n := by
  have key : ∀ x : Int, 0 ≤ x → ∃ p : Nat, x.tmod n = (p : Int) ∧ (p : Int) < n := by
    intro x hx
    obtain ⟨p, hp⟩ := Int.eq_ofNat_of_zero_le (Int.tmod_nonneg n hx)
    exact ⟨p, hp, hp ▸ Int.tmod_lt_of_pos x hn⟩
  unfold zR
  by_cases h : c < 0
  · obtain ⟨p, h1, h2⟩ := key (0 - (c + 1)) (by omega)
    refine ⟨p, ?_, h2⟩
    simp only [h, decide_true, if_true]
    rw [kK (by omega), kG (x := c + 1) (by omega), kG (by omega), h1]
  · obtain ⟨p, h1, h2⟩ := key c (by omega)
    refine ⟨p, ?_, h2⟩
    simp only [h, decide_false, Bool.false_eq_true, if_false]
    rw [kK (by omega), h1]
def ab4 (y : zt) : Prop := (-9223372036854775808 ≤ y.Text ∧ y.Text ≤ 9223372036854775807) ∧ (-9223372036854775808 ≤ y.Marks ∧ y.Marks ≤ 9223372036854775807) ∧ (-9223372036854775808 ≤ y.zu ∧ y.zu ≤ 9223372036854775807) ∧ (-9223372036854775808 ≤ y.In ∧ y.In ≤ 9223372036854775807)
structure BkS (i : Nat) (ts o : List za) : Prop where
 tb : ∀ x ∈ ts, BN x
 tt : ∀ x ∈ ts, isT x = true
 ob : ∀ x ∈ o, BN x
 ont : ∀ x ∈ o, isT x = false
 wt : zU ts + zU o ≤ 60 * i
 dep : qX o ≤ 31
theorem adD : ∀ (l : List za), (∀ x ∈ l, isT x = true) → qX l = 0
  | [], _ => by simp [qX]
  | n :: l, h => by
    rw [qX, ZV, if_pos (h n (by simp)), adD l fun x hx => h x (by simp [hx])]
    rfl
theorem Yk {n : za} (h : isT n = false) : xG n = qX n.Kids + 1 := by rw [ZV, h]; rfl
theorem arw (y : zt) (hy : ab4 y) (i : Nat) (hi : i ≤ 41) (ts o : List za) (h : BkS i ts o) : ∃ p, vE y ts = some p ∧ BN p ∧ isT p = false ∧ nwt p ≤ 26 + zU ts ∧ xG p ≤ 1 := by
  obtain ⟨hT, hM, hA, hI⟩ := hy
  have hwt := h.wt
  have hjw := akd ts
  have hjd := amg ts
  rw [adD ts h.tt] at hjd
  obtain ⟨hjb, hja⟩ := asX ts h.tb
  obtain ⟨p1, e1, b1⟩ := VL y.zu 2 hA (by omega)
  obtain ⟨v, ev, mv⟩ := aiM aeF p1 (by simp; omega)
  obtain ⟨p2, e2, b2⟩ := VL (w64 (y.zu.tdiv 2)) 4 (amf _) (by omega)
  obtain ⟨w, ew, mw⟩ := aiM aie p2 (by simp; omega)
  obtain ⟨a1, a2, a3⟩ := aoe mv mw
  have ht : isT (⟨arR, [], [], [⟨Yc, v⟩, ⟨acZ, w⟩], Wz ts⟩ : za) = false := rfl
  refine ⟨⟨arR, [], [], [⟨Yc, v⟩, ⟨acZ, w⟩], Wz ts⟩, ?_, .node _ _ _ (by decide +kernel) a1 a2 hjb hja, ht, ?_, ?_⟩
  · unfold vE
    rw [e1]
    simp only [Option.bind_some, ev]
    rw [e2]
    simp only [Option.bind_some, ew]
    rw [join_eq ts (by omega)]
    rfl
  · rw [wQ]
    simp only [wL, List.length_cons, List.length_nil]
    omega
  · rw [Yk ht]
    simp only
    omega
theorem aeG {k : Str} {ks : List za} (hk : isName k = true) (hl : k.length = 4) (h : ∀ x ∈ ks, BN x) (hn : ∀ x ∈ ks, isT x = false) : BN ⟨k, [], [], [], ks⟩ ∧ isT ⟨k, [], [], [], ks⟩ = false ∧ nwt ⟨k, [], [], [], ks⟩ = 6 + zU ks ∧ xG ⟨k, [], [], [], ks⟩ = qX ks + 1 := by
  have ht : isT (⟨k, [], [], [], ks⟩ : za) = false := abb hk
  refine ⟨.node _ _ _ hk rfl (by decide +kernel) h (alB ks hn), ht, ?_, Yk ht⟩
  rw [wQ]
  simp only [wL, vg, List.length_nil]
  omega
theorem ahi : isName adW = true := by decide +kernel
theorem aho : isName ahM = true := by decide +kernel
theorem BkS.put {i : Nat} {ts o ts' o' : List za} (h : BkS i ts o) {p : za} (hp : BN p) (ht : isT p = false) (hb : ∀ x ∈ ts', BN x) (htt : ∀ x ∈ ts', isT x = true) (ho : ∀ x ∈ o', x ∈ o) (hw : zU ts' + zU o' + nwt p ≤ 60 * (i + 1)) (hd : xG p ≤ 31) : BkS (i + 1) ts' (o' ++ [p]) := by
 have hdo : ∀ l : List za, (∀ x ∈ l, x ∈ o) → qX l ≤ 31 := by
  intro l
  induction l with
  | nil => simp [qX]
  | cons x l ih =>
   intro hx
   have h1 := ih fun y hy => hx y (by simp [hy])
   have h2 : ∀ r : List za, x ∈ r → xG x ≤ qX r := by
    intro r
    induction r with
    | nil => simp
    | cons z r ih =>
     intro hr
     rw [qX]
     rcases List.mem_cons.1 hr with rfl | hr
     ·omega
     ·have := ih hr; omega
   have h3 := h2 o (hx x (by simp))
   have := h.dep
   rw [qX]
   omega
 refine ⟨hb, htt, fun x hx => ?_, fun x hx => ?_, ?_, ?_⟩
 ·rcases List.mem_append.1 hx with hx | hx
  ·exact h.ob x (ho x hx)
  ·simp at hx; rw [hx]; exact hp
 ·rcases List.mem_append.1 hx with hx | hx
  ·exact h.ont x (ho x hx)
  ·simp at hx; rw [hx]; exact ht
 ·simp only [ZM, zU]; omega
 ·have := hdo o' ho
  simp only [VZ, qX]
  omega
theorem aoV (y : zt) (hy : ab4 y) (i : Nat) (hi : i < 40) (ts o : List za) (h : BkS i ts o) : ∃ ts' o', BkS (i + 1) ts' o' ∧ ∀ suf, zA (y :: suf) (i : Int) ts o = zA suf ((i : Int) + 1) ts' o' := by
  have hy' := hy
  obtain ⟨hT, hM, hA, hI⟩ := hy
  have hwt := h.wt
  have hlo := kM o
  have hlt := kM ts
  obtain ⟨pT, eT, bT⟩ := VL y.Text 5 hT (by omega)
  obtain ⟨tx, et, mt⟩ := aiM alh pT (by simp; omega)
  obtain ⟨pM, eM, bM⟩ := VL y.Marks 4 hM (by omega)
  obtain ⟨pI, eI, bI⟩ := VL y.In 5 hI (by omega)
  obtain ⟨t1, t2, t3⟩ := aoO mt
  have hi' : decide ((i : Int) < 40) = true := by simp; omega
  obtain ⟨m1, em1, hm1⟩ : ∃ m, ((zR y.Marks (4 : Int)).bind fun abX => if ((ahA abX (1 : Int)) == (1 : Int)) = true then (app 16 ([] : List Str) [([98] : Str)]).bind fun alo => some alo else some ([] : List Str)) = some m ∧ (m = [] ∨ m = [[98]]) := by
    rw [eM]
    simp only [Option.bind_some]
    split
    · exact ⟨[[98]], by rw [jd (by simp)]; rfl, .inr rfl⟩
    · exact ⟨[], rfl, .inl rfl⟩
  obtain ⟨m2, em2, hm2⟩ : ∃ m, ((zR y.Marks (4 : Int)).bind fun aaU => if ((ahA aaU (2 : Int)) == (2 : Int)) = true then (app 16 m1 [([105] : Str)]).bind fun aqC => some aqC else some m1) = some m ∧ aaH m := by
    rw [eM]
    simp only [Option.bind_some]
    rcases hm1 with rfl | rfl
    · split
      · exact ⟨[[105]], by rw [jd (by simp)]; rfl, .inr (.inr (.inl rfl))⟩
      · exact ⟨[], rfl, .inl rfl⟩
    · split
      · exact ⟨[[98], [105]], by rw [jd (by simp)]; rfl, .inr (.inr (.inr rfl))⟩
      · exact ⟨[[98]], rfl, .inr (.inl rfl)⟩
  have hmw := ajv hm2
  obtain ⟨n, hn⟩ : ∃ n : za, n = ⟨jf, tx, m2, [], []⟩ := ⟨_, rfl⟩
  have hnB : BN n := by rw [hn]; exact .text _ _ t1 t2 hm2
  have hnT : isT n = true := by rw [hn]; rfl
  have hnW : nwt n ≤ 16 := by rw [hn, wQ]; simp only [vg, zU, List.length_cons, List.length_nil]; omega
  have hts : BkS i (ts ++ [n]) o → True := fun _ => trivial
  have start : ∀ suf, zA (y :: suf) (i : Int) ts o = (
      if ((pI : Int) == (0 : Int)) = true then
        zA suf ((i : Int) + 1) (ts ++ [n]) o
      else
        (vE y (ts ++ [n])).bind fun jN =>
        if (decide ((pI : Int) < (3 : Int))) = true then
          (app 104 o [jN]).bind fun aq7 =>
          zA suf ((i : Int) + 1) ([] : List za) aq7
        else
          ((
              if (decide ((w64 ((o.length : Int) - (1 : Int))) ≥ (0 : Int))) = true then
                (rd o (w64 ((o.length : Int) - (1 : Int)))).bind fun aiD =>
                if (aiD.Kind == ([108, 105, 115, 116] : Str)) = true then
                  if ((pI : Int) == (3 : Int)) = true then
                    (app 104 ([] : List za) aiD.Kids).bind fun alV =>
                    (app 104 alV [({ Kind := ([105, 116, 101, 109] : Str), Text := ([] : Str), Marks := [], zu := [], Kids := [jN] } : za)]).bind fun arn =>
                    (sl o (0 : Int) (w64 ((o.length : Int) - (1 : Int)))).bind fun aru =>
                    (app 104 ([] : List za) aru).bind fun aqB =>
                    (app 104 aqB [{ aiD with Kids := arn }]).bind fun aq9 =>
                    some (.inl aq9)
                  else
                    some (.inr ())
                else
                  some (.inr ())
              else
                some (.inr ())) : Option ((List za) ⊕ Unit)).bind fun e => match e with
          | .inl akk =>
            zA suf ((i : Int) + 1) ([] : List za) akk
          | .inr _ =>
            if (decide ((w64 ((o.length : Int) - (1 : Int))) ≥ (0 : Int))) = true then
              (rd o (w64 ((o.length : Int) - (1 : Int)))).bind fun aic =>
              if (aic.Kind == ([108, 105, 115, 116] : Str)) = true then
                (vI aic).bind fun XA =>
                if (decide (XA < (30 : Int))) = true then
                  (app 104 [jN] [aic]).bind fun arx =>
                  (sl o (0 : Int) (w64 ((o.length : Int) - (1 : Int)))).bind fun aqA =>
                  (app 104 ([] : List za) aqA).bind fun arf =>
                  (app 104 arf [({ Kind := ([108, 105, 115, 116] : Str), Text := ([] : Str), Marks := [], zu := [], Kids := [({ Kind := ([105, 116, 101, 109] : Str), Text := ([] : Str), Marks := [], zu := [], Kids := arx } : za)] } : za)]).bind fun ark =>
                  zA suf ((i : Int) + 1) ([] : List za) ark
                else
                  (app 104 o [({ Kind := ([108, 105, 115, 116] : Str), Text := ([] : Str), Marks := [], zu := [], Kids := [({ Kind := ([105, 116, 101, 109] : Str), Text := ([] : Str), Marks := [], zu := [], Kids := [jN] } : za)] } : za)]).bind fun ard =>
                  zA suf ((i : Int) + 1) ([] : List za) ard
              else
                (app 104 o [({ Kind := ([108, 105, 115, 116] : Str), Text := ([] : Str), Marks := [], zu := [], Kids := [({ Kind := ([105, 116, 101, 109] : Str), Text := ([] : Str), Marks := [], zu := [], Kids := [jN] } : za)] } : za)]).bind fun arq =>
                zA suf ((i : Int) + 1) ([] : List za) arq
            else
              (app 104 o [({ Kind := ([108, 105, 115, 116] : Str), Text := ([] : Str), Marks := [], zu := [], Kids := [({ Kind := ([105, 116, 101, 109] : Str), Text := ([] : Str), Marks := [], zu := [], Kids := [jN] } : za)] } : za)]).bind fun art =>
              zA suf ((i : Int) + 1) ([] : List za) art) := fun suf => by
    rw [zA, if_pos hi', eT]
    simp only [Option.bind_some]
    rw [et]
    simp only [Option.bind_some]
    rw [em1]
    simp only [Option.bind_some]
    rw [em2]
    simp only [Option.bind_some]
    rw [← hn, jd (by simp only [List.length_cons, List.length_nil]; omega)]
    simp only [Option.bind_some]
    rw [eI]
    rfl
  have htb : ∀ x ∈ ts ++ [n], BN x := fun x hx => by
    rcases List.mem_append.1 hx with hx | hx
    · exact h.tb x hx
    · simp at hx; rw [hx]; exact hnB
  have htt : ∀ x ∈ ts ++ [n], isT x = true := fun x hx => by
    rcases List.mem_append.1 hx with hx | hx
    · exact h.tt x hx
    · simp at hx; rw [hx]; exact hnT
  have hwn : zU (ts ++ [n]) = zU ts + nwt n := by simp [ZM, zU]
  by_cases k0 : (pI : Int) = 0
  · refine ⟨ts ++ [n], o, ⟨htb, htt, h.ob, h.ont, by omega, h.dep⟩, fun suf => ?_⟩
    rw [start, if_pos (by simp [k0])]
  · obtain ⟨p, ep, hpB, hpT, hpW, hpD⟩ := @arw y hy' (i + 1) (by omega) (ts ++ [n]) o ⟨htb, htt, h.ob, h.ont, by omega, h.dep⟩
    have nob : ∀ x ∈ ([] : List za), BN x := by simp
    have nott : ∀ x ∈ ([] : List za), isT x = true := by simp
    by_cases k3 : (pI : Int) < 3
    · refine ⟨[], o ++ [p], h.put hpB hpT nob nott (fun x hx => hx) (by simp only [zU]; omega) (by omega), fun suf => ?_⟩
      rw [start, if_neg (by simp; omega), ep]
      simp only [Option.bind_some]
      rw [if_pos (by simp; omega), jd (by simp only [List.length_cons, List.length_nil]; omega)]
      rfl
    · obtain ⟨q1, q2, q3, q4⟩ := aeG (k := adW) (ks := [p]) ahi rfl (by simpa using hpB) (by simpa using hpT)
      obtain ⟨r1, r2, r3, r4⟩ := aeG (k := ahM) (ks := [⟨adW, [], [], [], [p]⟩]) aho rfl (by simpa using q1) (by simpa using q2)
      simp only [zU, qX] at q3 q4 r3 r4
      have one : BkS (i + 1) [] (o ++ [⟨ahM, [], [], [], [⟨adW, [], [], [], [p]⟩]⟩]) := h.put r1 r2 nob nott (fun x hx => hx) (by simp only [zU]; omega) (by omega)
      have happ : ∀ z : za, app 104 o [z] = some (o ++ [z]) := fun z => jd (by simp only [List.length_cons, List.length_nil]; omega)
      rcases wP o with rfl | ⟨o, x, rfl⟩
      · refine ⟨[], _, one, fun suf => ?_⟩
        have hl : decide (w64 ((([] : List za).length : Int) - 1) ≥ 0) = false := by rw [kG (by simp)]; simp
        rw [start, if_neg (by simp; omega), ep]
        simp only [Option.bind_some]
        rw [if_neg (by simp; omega), hl]
        simp only [Bool.false_eq_true, if_false, Option.bind_some]
        rw [happ]
        rfl
      · have hlen : ((o ++ [x]).length : Int) - 1 = (o.length : Int) := by simp
        have hlw : w64 (((o ++ [x]).length : Int) - 1) = (o.length : Int) := by
          rw [hlen]
          simp only [List.length_append, List.length_cons, List.length_nil] at hlo
          exact kG (by omega)
        have hl : decide ((o.length : Int) ≥ 0) = true := by simp
        have hrd : rd (o ++ [x]) (o.length : Int) = some x := Jf o [] x
        have hsl : sl (o ++ [x]) 0 (o.length : Int) = some o := aqf o [x]
        have hxB := h.ob x (by simp)
        have hxT := h.ont x (by simp)
        have hd := h.dep
        simp only [ZM, zU, VZ, qX] at hwt hd
        have hwo : 2 * o.length ≤ zU o := kM o
        by_cases kl : x.Kind = ahM
        · by_cases kk : (pI : Int) = 3
          · obtain ⟨kB, kJ⟩ := amI hxB
            have hlk := kM x.Kids
            have hxw := wQ x
            obtain ⟨z, hz⟩ : ∃ z : za, z = { x with Kids := x.Kids ++ [⟨adW, [], [], [], [p]⟩] } := ⟨_, rfl⟩
            have zw := wQ z
            have zT : isT z = false := by rw [hz]; exact hxT
            have zd := Yk zT
            have xd := Yk hxT
            have zB : BN z := by
              rw [hz]
              cases hxB with
              | text t m h1 h2 hm => cases kl
              | node k a ks hk ha hb hs hj =>
                simp only at kl
                subst kl
                refine .node _ _ _ hk ha hb (fun y hy => ?_) ?_
                · rcases List.mem_append.1 hy with hy | hy
                  · exact hs y hy
                  · simp at hy; rw [hy]; exact q1
                · rcases wP ks with rfl | ⟨ks, u, rfl⟩
                  · trivial
                  · rw [List.append_assoc]
                    exact afP ks u _ hj (by unfold vL; rw [q2]; simp)
            rw [hz] at zw zd
            simp only [ZM, zU, VZ, qX] at zw zd
            refine ⟨[], o ++ [z], h.put zB zT nob nott (fun y hy => by simp [hy]) (by simp only [zU]; rw [hz, wQ]; simp only [ZM, zU]; omega) (by rw [hz, zd]; omega), fun suf => ?_⟩
            rw [start, if_neg (by simp; omega), ep]
            simp only [Option.bind_some]
            rw [if_neg (by simp; omega), hlw, hl]
            simp only [if_true]
            rw [hrd]
            simp only [Option.bind_some]
            rw [if_pos (by rw [kl]; rfl), if_pos (by simp [kk]), jd (by simp only [List.length_nil]; omega)]
            simp only [Option.bind_some, List.nil_append]
            rw [jd (by simp only [List.length_cons, List.length_nil]; omega)]
            simp only [Option.bind_some]
            rw [hsl]
            simp only [Option.bind_some]
            rw [jd (by simp only [List.length_nil]; omega)]
            simp only [Option.bind_some, List.nil_append]
            rw [jd (by simp only [List.length_cons, List.length_nil]; omega)]
            simp only [Option.bind_some]
            rw [hz]
          · by_cases kd : xG x < 30
            · obtain ⟨u1, u2, u3, u4⟩ := aeG (k := adW) (ks := [p, x]) ahi rfl (by simpa using ⟨hpB, hxB⟩) (by simpa using ⟨hpT, hxT⟩)
              obtain ⟨v1, v2, v3, v4⟩ := aeG (k := ahM) (ks := [⟨adW, [], [], [], [p, x]⟩]) aho rfl (by simpa using u1) (by simpa using u2)
              simp only [zU, qX] at u3 u4 v3 v4
              refine ⟨[], o ++ [⟨ahM, [], [], [], [⟨adW, [], [], [], [p, x]⟩]⟩], h.put v1 v2 nob nott (fun y hy => by simp [hy]) (by simp only [zU]; omega) (by omega), fun suf => ?_⟩
              rw [start, if_neg (by simp; omega), ep]
              simp only [Option.bind_some]
              rw [if_neg (by simp; omega), hlw, hl]
              simp only [if_true]
              rw [hrd]
              simp only [Option.bind_some]
              rw [if_pos (by rw [kl]; rfl), if_neg (by simp [kk])]
              simp only [Option.bind_some]
              rw [if_pos (by rw [kl]; rfl), ahz x (by omega)]
              simp only [Option.bind_some]
              rw [if_pos (by simp; omega), jd (by simp)]
              simp only [Option.bind_some]
              rw [hsl]
              simp only [Option.bind_some]
              rw [jd (by simp only [List.length_nil]; omega)]
              simp only [Option.bind_some, List.nil_append]
              rw [jd (by simp only [List.length_cons, List.length_nil]; omega)]
              rfl
            · refine ⟨[], _, one, fun suf => ?_⟩
              rw [start, if_neg (by simp; omega), ep]
              simp only [Option.bind_some]
              rw [if_neg (by simp; omega), hlw, hl]
              simp only [if_true]
              rw [hrd]
              simp only [Option.bind_some]
              rw [if_pos (by rw [kl]; rfl), if_neg (by simp [kk])]
              simp only [Option.bind_some]
              rw [if_pos (by rw [kl]; rfl), ahz x (by omega)]
              simp only [Option.bind_some]
              rw [if_neg (by simp; omega), happ]
              rfl
        · refine ⟨[], _, one, fun suf => ?_⟩
          rw [start, if_neg (by simp; omega), ep]
          simp only [Option.bind_some]
          rw [if_neg (by simp; omega), hlw, hl]
          simp only [if_true]
          rw [hrd]
          simp only [Option.bind_some]
          rw [if_neg (by simpa using kl)]
          simp only [Option.bind_some]
          rw [if_neg (by simpa using kl), happ]
          rfl
theorem ao5 : ∀ (l : List zt) (i : Nat) (ts o : List za), (∀ y ∈ l, ab4 y) → i ≤ 40 → BkS i ts o → ∃ ts' o', zA l (i : Int) ts o = some o' ∧ BkS 40 ts' o'
  | [], i, ts, o, _, hi, h => ⟨ts, o, by simp [zA], h.tb, h.tt, h.ob, h.ont, by have := h.wt; omega, h.dep⟩
  | y :: l, i, ts, o, hy, hi, h => by
    by_cases hlt : i < 40
    · obtain ⟨t1, o1, h1, h2⟩ := aoV y (hy y (by simp)) i hlt ts o h
      obtain ⟨ts', o', h3, h4⟩ := ao5 l (i + 1) t1 o1 (fun x hx => hy x (by simp [hx])) (by omega) h1
      refine ⟨ts', o', ?_, h4⟩
      rw [h2, ← h3]
      rfl
    · have : decide ((i : Int) < 40) = false := by simp; omega
      exact ⟨ts, o, by rw [zA]; simp [this], h.tb, h.tt, h.ob, h.ont, by have := h.wt; omega, h.dep⟩
theorem arB (l : List zt) (hl : l.length ≤ 9223372036854775807) (h : ∀ y ∈ l, ab4 y) : ∃ ks, jT l = some ⟨agE, [], [], [], ks⟩ ∧ Book ks := by
  obtain ⟨ts, o, h1, h2⟩ := ao5 l 0 [] [] h (by omega) ⟨by simp, by simp, by simp, by simp, by simp [zU], by simp [qX]⟩
  have hw := h2.wt
  refine ⟨o, ?_, h2.ob, h2.ont, by omega, h2.dep⟩
  unfold jT
  rw [kK hl]
  have : zA l 0 [] [] = some o := h1
  rw [this]
  rfl
end Go.Proofs.YtclohbgnaopjfaaDoor
namespace Go.Proofs.YtclohbgnaopjfaaDoor
set_option linter.unusedSimpArgs false
set_option linter.unusedVariables false
open Go Classical
abbrev ato : za := ⟨[100, 111, 99], [], [], [], [⟨[112], [], [], [], [⟨jf, [104, 105], [], [], []⟩]⟩]⟩
abbrev arH : za := ⟨[100, 111, 99], [], [], [], [⟨[112], [], [], [], [⟨jf, [104], [], [], []⟩, ⟨jf, [105], [[98]], [], []⟩]⟩]⟩
theorem al9 : je = some true := by
 have r1 : runes [104, 105] = [104, 105] := by decide +kernel
 have r2 : runes [104] = [104] := by decide +kernel
 have r3 : runes [105] = [105] := by decide +kernel
 have hT : tkL ato.Kids = [.opn [112] [], .sgn 104 [], .sgn 105 [], .cls, ] := by
  simp [tkL, tkN, r1]
 have h : TD ato [.opn [112] [], .sgn 104 [], .sgn 105 [], .cls] := ⟨by decide +kernel, rfl, hT⟩
 have hB : tkL arH.Kids = [.opn [112] [], .sgn 104 [], .sgn 105 [[98]], .cls] := by
  simp [tkL, tkN, r2, r3]
 have hb : TD arH [.opn [112] [], .sgn 104 [], .sgn 105 [[98]], .cls] := ⟨by decide +kernel, rfl, hB⟩
 obtain ⟨N, h1, _, h2, h3, h4⟩ := aav h (by decide +kernel) (k := 109) (.inl rfl) (x := [98]) (by decide +kernel) (by decide) (a := 2) (b := 3) (by decide) (by decide)
 have e : qd 109 [98] 2 3 0 [.opn [112] [], .sgn 104 [], .sgn 105 [], .cls] = [.opn [112] [], .sgn 104 [], .sgn 105 [[98]], .cls] := by
  have : mkS 109 [98] [] = [[98]] := by decide +kernel
  simp [qd, mkT, this]
 rw [e] at h2
 obtain rfl := h2.ext hb h3 h4
 have e2 : ((2 : Nat) : Int) = 2 := rfl
 have e3 : ((3 : Nat) : Int) = 3 := rfl
 rw [e2, e3] at h1
 unfold je
 rw [h1]
 rfl
end Go.Proofs.YtclohbgnaopjfaaDoor
namespace Go.Proofs.YtclohbgnaopjfaaDoor
set_option linter.unusedSimpArgs false
set_option linter.unusedVariables false
open Go Classical
theorem ajx {ks : List za} (h : Book ks) (c : Int) (hc : -9223372036854775808 ≤ c ∧ c ≤ 9223372036854775807) : ∃ p : Nat, zR c (w64 ((qi ks : Int) + 1)) = some (p : Int) ∧ p ≤ qi ks := by
  have hw := h.wt
  have hs := Jg ks
  rw [kG (by omega)]
  obtain ⟨p, h1, h2⟩ := VL c ((qi ks : Int) + 1) hc (by omega)
  exact ⟨p, h1, by omega⟩
theorem aq8 (p q : Nat) : (if (q : Int) < (p : Int) then (q : Int) else (p : Int)) = ((min p q : Nat) : Int) := by split <;> omega
theorem aqI (p q : Nat) : (if (q : Int) > (p : Int) then (q : Int) else (p : Int)) = ((max p q : Nat) : Int) := by split <;> omega
end Go.Proofs.YtclohbgnaopjfaaDoor
namespace Go.Proofs.YtclohbgnaopjfaaDoor
set_option linter.unusedSimpArgs false
set_option linter.unusedVariables false
open Go Classical
theorem agj (l : List zt) (from_ to_ : Int) (hl : l.length ≤ 9223372036854775807) (hlc : ∀ y ∈ l, ab4 y) (hf : -9223372036854775808 ≤ from_ ∧ from_ ≤ 9223372036854775807) (ht : -9223372036854775808 ≤ to_ ∧ to_ ≤ 9223372036854775807) : vV l from_ to_ = some true := by
  obtain ⟨ks, e1, hb⟩ := arB l hl hlc
  obtain ⟨h, hw⟩ := arz hb
  obtain ⟨p, p1, p2⟩ := ajx hb from_ hf
  obtain ⟨q, q1, q2⟩ := ajx hb to_ ht
  have hkw := hb.wt
  have hsm := h.small
  have hlen := h.len
  have n1 : isName [98] = true := by decide +kernel
  have n2 : isName [97] = true := by decide +kernel
  unfold vV
  rw [al9]
  simp only [Option.bind_some, Bool.not_true, Bool.false_eq_true, if_false]
  rw [e1]
  simp only [Option.bind_some]
  rw [ak0 ks (by omega)]
  simp only [Option.bind_some]
  rw [p1]
  simp only [Option.bind_some]
  rw [q1]
  simp only [Option.bind_some]
  rw [aq8 p q, aqI p q]
  have hab : min p q ≤ max p q := by omega
  have hbl : max p q ≤ (tkL ks).length := by rw [hlen]; simp only; omega
  generalize min p q = a at *
  generalize max p q = b at *
  have wm : ∀ (N : za) (k : Int) (x : Str) (T : List Tk), isName x = true → T.length = (tkL ks).length → N.Kind = agE → N.zu = [] → tw T ≤ 1000000 → TD N (qd k x a b 0 T) → wD N (qd k x a b 0 T) ≤ tw T + 100000 := by
    intro N k x T hx hT hk ha _ _
    have := aaZ k x a b T 0
    have h2 := acf hx
    have h3 : T.length * (1 + x.length) ≤ 3998 * 21 := Nat.mul_le_mul (by omega) (by omega)
    unfold wD
    rw [hk, ha]
    simp only [vg, List.length_cons, List.length_nil]
    omega
  have tk0 : tw (tkL ks) ≤ 40000 := by unfold wD at hw; omega
  have ml : ∀ (k : Int) (x : Str), (qd k x a b 0 (tkL ks)).length = (tkL ks).length := fun k x => ads _ _ _ _ _ _
  have tm : ∀ (k : Int) (x : Str), isName x = true → tw (qd k x a b 0 (tkL ks)) ≤ 140000 := by
    intro k x hx
    have := aaZ k x a b (tkL ks) 0
    have h2 := acf hx
    have h3 : (tkL ks).length * (1 + x.length) ≤ 3998 * 21 := Nat.mul_le_mul (by omega) (by omega)
    omega
  have one : ∀ (k : Int), k = 109 ∨ k = 117 → ∀ x, isName x = true → ∃ N, kE (aqi ks) ⟨k, (a : Int), (b : Int), [], x, []⟩ = some (N, 0) ∧ TD N (qd k x a b 0 (tkL ks)) ∧ N.Kind = agE ∧ N.zu = [] ∧ wD N (qd k x a b 0 (tkL ks)) ≤ 140000 := by
    intro k hk x hx
    obtain ⟨N, h1, _, h2, h3, h4⟩ := aav h (by omega) hk hx (acf hx) hab hbl
    refine ⟨N, h1, h2, h3, h4, ?_⟩
    have := wm N k x (tkL ks) hx rfl h3 h4 (by omega) h2
    omega
  have two : ∀ (N : za) (k : Int) (x : Str) (k' : Int) (x' : Str), k' = 109 ∨ k' = 117 → isName x = true → isName x' = true → TD N (qd k x a b 0 (tkL ks)) → N.Kind = agE → N.zu = [] → wD N (qd k x a b 0 (tkL ks)) ≤ 140000 → ∃ M, kE N ⟨k', (a : Int), (b : Int), [], x', []⟩ = some (M, 0) ∧ TD M (qd k' x' a b 0 (qd k x a b 0 (tkL ks))) ∧ M.Kind = agE ∧ M.zu = [] ∧ wD M (qd k' x' a b 0 (qd k x a b 0 (tkL ks))) ≤ 300000 := by
    intro N k x k' x' hk hx hx' hN h3 h4 hwN
    obtain ⟨M, g1, _, g2, g3, g4⟩ := aav hN (by omega) hk hx' (acf hx') hab (by rw [ml]; exact hbl)
    rw [h3] at g3
    rw [h4] at g4
    refine ⟨M, g1, g2, g3, g4, ?_⟩
    have := tm k x hx
    have := wm M k' x' _ hx' (ml k x) g3 g4 (by omega) g2
    omega
  obtain ⟨A, a1, a2, a3, a4, a5⟩ := one 109 (.inl rfl) [98] n1
  obtain ⟨U, u1, u2, u3, u4, u5⟩ := one 117 (.inr rfl) [98] n1
  obtain ⟨C, c1, c2, c3, c4, c5⟩ := one 109 (.inl rfl) [97] n2
  obtain ⟨AA, aa1, aa2, aa3, aa4, aa5⟩ := two A 109 [98] 109 [98] (.inl rfl) n1 n1 a2 a3 a4 a5
  obtain ⟨AU, au1, au2, au3, au4, au5⟩ := two A 109 [98] 117 [98] (.inr rfl) n1 n1 a2 a3 a4 a5
  obtain ⟨AC, ac1, ac2, ac3, ac4, ac5⟩ := two A 109 [98] 109 [97] (.inl rfl) n1 n2 a2 a3 a4 a5
  obtain ⟨CA, ca1, ca2, ca3, ca4, ca5⟩ := two C 109 [97] 109 [98] (.inl rfl) n2 n1 c2 c3 c4 c5
  rw [a1]
  simp only [Option.bind_some]
  rw [aeH a1 aa1, aeH a1 au1]
  simp only [Option.bind_some]
  rw [u1]
  simp only [Option.bind_some]
  rw [aeH a1 ac1, aeH c1 ca1]
  simp only [Option.bind_some, beq_self_eq_true, if_true]
  have t1 := adu a b (tkL ks) 0 fun c m hc => atY (h.tok c m hc) n1
  rw [t1] at aa2
  rw [a2.same aa2 (by rw [a3, aa3]) (by rw [a4, aa4]) (by omega)]
  simp only [Option.bind_some, if_true]
  have t2 := adu a b (tkL ks) 0 fun c m hc => asE (h.tok c m hc) n1
  rw [t2] at au2
  rw [au2.same u2 (by rw [au3, u3]) (by rw [au4, u4]) (by rw [t2] at au5; omega)]
  simp only [Option.bind_some, if_true]
  have t3 := afb a b (tkL ks) 0 fun c m hc => aqV (h.tok c m hc) n1 n2
  rw [← t3] at ca2
  rw [ac2.same ca2 (by rw [ac3, ca3]) (by rw [ac4, ca4]) (by omega)]
  simp only [Option.bind_some, if_true]
  rw [ac2.words (by omega), h.words (by omega), abu, abu]
  simp
end Go.Proofs.YtclohbgnaopjfaaDoor
