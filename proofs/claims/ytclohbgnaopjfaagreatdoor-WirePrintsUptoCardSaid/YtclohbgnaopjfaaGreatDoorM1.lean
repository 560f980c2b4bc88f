/- Texts merged into one: Small, Name, NodeBase, NodeAdj, Form, Quote, Write, PrintN, Print. -/
import Derived.Test.YtclohbgnaopjfaaGreatDoorAgF
import Derived.Lib.SlTrimSet
import Derived.Lib.RuneCount
import Derived.Lib.ValidU
import Derived.Lib.Replace
import Derived.Lib.Join

/- Small words. -/
namespace Go.Proofs.YtclohbgnaopjfaaGreatDoor
set_option linter.unusedSimpArgs false
set_option linter.unusedVariables false
open Go

/-! ### Small words -/
theorem w64_eq {x : Int} (h : -9223372036854775808 ≤ x ∧ x ≤ 9223372036854775807) : w64 x = x := wrapI h
theorem chk_eq {α : Type} {p : Prop} [Decidable p] (h : p) (x : Option α) : chk p x = x := if_pos h
theorem rd_nat {α : Type} {l : List α} {i : Nat} {x : α} (h : l[i]? = some x) : rd l (i : Int) = some x := by
  unfold rd; rw [if_pos (by omega)]; simpa using h
theorem rd_mid {α : Type} (pre suf : List α) (x : α) : rd (pre ++ x :: suf) (pre.length : Int) = some x := rd_nat (by simp)
theorem sl_nat {α : Type} {l : List α} {a b : Nat} (h1 : a ≤ b) (h2 : b ≤ l.length) : sl l (a : Int) (b : Int) = some ((l.take b).drop a) := by
  unfold sl; rw [if_pos (by omega)]; simp
theorem sl_pre {α : Type} (pre suf : List α) : sl (pre ++ suf) 0 (pre.length : Int) = some pre := by
  have := sl_nat (l := pre ++ suf) (a := 0) (b := pre.length) (by omega) (by simp)
  simpa using this
theorem sl_suf {α : Type} (pre suf : List α) : sl (pre ++ suf) (pre.length : Int) ((pre ++ suf).length : Int) = some suf := by
  have := sl_nat (l := pre ++ suf) (a := pre.length) (b := (pre ++ suf).length) (by simp) (by omega)
  rw [this, List.take_length, List.drop_left']
  rfl
theorem app_eq {α : Type} {z : Nat} {l ys : List α} (h : (l.length + ys.length) * z ≤ 140737488355328) : app z l ys = some (l ++ ys) := if_pos h
theorem snoc_cases {α : Type} (l : List α) : l = [] ∨ ∃ a x, l = a ++ [x] := by
  rcases List.eq_nil_or_concat l with h | ⟨a, x, h⟩
  · exact .inl h
  · exact .inr ⟨a, x, by simpa using h⟩

abbrev sText : Str := [116, 101, 120, 116]
def strsW : List Str → Nat
  | [] => 0
  | s :: l => 1 + s.length + strsW l
theorem strsW_mem {s : Str} : ∀ {l : List Str}, s ∈ l → s.length ≤ strsW l
  | x :: l, h => by
    simp only [strsW]
    rcases List.mem_cons.1 h with rfl | h
    · omega
    · have := strsW_mem h; omega
theorem strsW_n (l : List Str) : l.length ≤ strsW l := by
  induction l with
  | nil => simp
  | cons s l ih => simp only [List.length_cons, strsW]; omega
end Go.Proofs.YtclohbgnaopjfaaGreatDoor

/- What is a name. -/
namespace Go.Proofs.YtclohbgnaopjfaaGreatDoor
set_option linter.unusedSimpArgs false
set_option linter.unusedVariables false
open Go

/-- A way on, or 'false'. -/
def sumB (b : Bool) : Bool ⊕ Unit := match b with
  | true => .inr ()
  | false => .inl false

/-! ### Names, values -/
def letter (b : UInt8) : Bool := decide (97 ≤ b.toNat) && decide (b.toNat ≤ 122)
abbrev abc : Str := [97, 98, 99, 100, 101, 102, 103, 104, 105, 106, 107, 108, 109, 110, 111, 112, 113, 114, 115, 116, 117, 118, 119, 120, 121, 122]
def isName (s : Str) : Bool := s.all letter && decide (s ≠ []) && decide (s.length ≤ 8) && decide (s ≠ sText)

theorem abc_contains (b : UInt8) : abc.contains b = letter b := by
  have h : ∀ n, n < 256 → abc.contains (UInt8.ofNat n) = letter (UInt8.ofNat n) := by decide +kernel
  have := h b.toNat b.toNat_lt
  simpa using this
theorem all_drop (p : UInt8 → Bool) : ∀ l : Str, (∀ x ∈ l.dropWhile p, p x = true) → ∀ x ∈ l, p x = true
  | [], _ => by simp
  | a :: l, h => by
    by_cases ha : p a = true
    · rw [List.dropWhile_cons_of_pos ha] at h
      intro x hx
      rcases List.mem_cons.1 hx with rfl | hx
      · exact ha
      · exact all_drop p l h x hx
    · rw [List.dropWhile_cons_of_neg ha] at h
      exact (ha (h a (by simp))).elim
theorem drop_all (p : UInt8 → Bool) : ∀ l : Str, (∀ x ∈ l, p x = true) → l.dropWhile p = []
  | [], _ => rfl
  | a :: l, h => by
    rw [List.dropWhile_cons_of_pos (h a (by simp))]
    exact drop_all p l fun x hx => h x (by simp [hx])
theorem trim_nil (s : Str) : (Lib.trimS s abc == []) = s.all letter := by
  have hp : (fun b => abc.contains b) = letter := funext abc_contains
  unfold Lib.trimS Lib.trimLeftS Lib.trimRightS
  rw [hp]
  cases h : s.all letter with
  | true =>
    have h' := List.all_eq_true.1 h
    rw [drop_all letter s.reverse fun x hx => h' x (by simpa using hx)]
    rfl
  | false =>
    rw [beq_eq_false_iff_ne]
    intro e
    have h1 : ∀ x ∈ (s.reverse.dropWhile letter).reverse, letter x = true := all_drop letter _ (by rw [e]; simp)
    have h2 := all_drop letter s.reverse fun x hx => h1 x (by simpa using hx)
    have h3 : s.all letter = true := List.all_eq_true.2 fun x hx => h2 x (by simpa using hx)
    rw [h] at h3
    cases h3
theorem name_eq (s : Str) (h : s.length ≤ 9223372036854775807) : node_Name s = some (isName s) := by
  unfold node_Name strings_Trim isName
  rw [chk_eq ⟨h, by decide, by decide⟩]
  simp only [Option.bind_some, trim_nil]
  cases h1 : s.all letter with
  | false => simp
  | true =>
    by_cases h2 : s = []
    · simp [h2]
    · by_cases h3 : s.length ≤ 8
      · have g3 : decide ((s.length : Int) ≤ 8) = true := by simp; omega
        have g2 : (s == []) = false := by simpa using h2
        simp only [if_true, g2, Bool.not_false, g3, h2, h3, ne_eq, not_false_eq_true, decide_true, Bool.true_and]
        by_cases h4 : s = sText <;> simp [h4]
      · have g3 : decide ((s.length : Int) ≤ 8) = false := by simp; omega
        have g2 : (s == []) = false := by simpa using h2
        simp only [if_true, g2, Bool.not_false, g3, Bool.false_eq_true, if_false]
        simp [h3]
end Go.Proofs.YtclohbgnaopjfaaGreatDoor

/- Nodes, plainly: weight, size, joining. -/
namespace Go.Proofs.YtclohbgnaopjfaaGreatDoor
set_option linter.unusedSimpArgs false
set_option linter.unusedVariables false
open Go

def isT (n : api_Node) : Bool := n.Kind == sText
theorem isT_def (n : api_Node) : (n.Kind == ([116, 101, 120, 116] : Str)) = isT n := rfl

theorem api_Node.ind {p : api_Node → Prop} (h : ∀ n : api_Node, (∀ k ∈ n.Kids, p k) → p n) : ∀ n, p n
  | ⟨a, b, c, d, ks⟩ => h _ fun k hk => api_Node.ind h k
  termination_by n => n
  decreasing_by
    have : SizeOf.sizeOf k < SizeOf.sizeOf ks := List.sizeOf_lt_of_mem hk
    simp only [api_Node.mk.sizeOf_spec]
    omega

/-! ### Texts' code points -/
def rlen (s : Str) : Nat := Lib.runeCountL s
theorem rlen_le (s : Str) : rlen s ≤ s.length := by
  have := Lib.runeCountFrom_le ⟨s.toArray⟩ (ByteArray.size ⟨s.toArray⟩) 0
  simpa [rlen, Lib.runeCountL, Lib.runeCount, ByteArray.size] using this

theorem runeCount_l0 (s : Str) : ∀ (f k : Nat) (n : Int) (pos : Nat), s.length - pos ≤ f → f < k → 0 ≤ n → n + f ≤ 9223372036854775807 → unicode_utf8_RuneCountInString_l0 s k n pos = some (n + Lib.runeCountFrom ⟨s.toArray⟩ f pos) := by
  intro f
  induction f with
  | zero =>
    intro k n pos h1 h2 h3 h4
    obtain ⟨k, rfl⟩ : ∃ j, k = j + 1 := ⟨k - 1, by omega⟩
    have : ¬ pos < s.length := by omega
    simp [unicode_utf8_RuneCountInString_l0, this, Lib.runeCountFrom]
  | succ f ih =>
    intro k n pos h1 h2 h3 h4
    obtain ⟨k, rfl⟩ : ∃ j, k = j + 1 := ⟨k - 1, by omega⟩
    rw [unicode_utf8_RuneCountInString_l0]
    by_cases hp : pos < s.length
    · have hw := Lib.decode_width_pos ⟨s.toArray⟩ pos (by simpa [ByteArray.size] using hp)
      simp only [hp, decide_true, if_true]
      rw [w64_eq (by omega), ih k (n + 1) _ (by simp only [runeW]; omega) (by omega) (by omega) (by omega)]
      have hs : pos < ByteArray.size ⟨s.toArray⟩ := by simpa [ByteArray.size] using hp
      simp only [Lib.runeCountFrom, hs, if_true, runeW, Option.some.injEq]
      omega
    · have hs : ¬ pos < ByteArray.size ⟨s.toArray⟩ := by simpa [ByteArray.size] using hp
      simp [hp, Lib.runeCountFrom, hs]

theorem runeCount_eq (s : Str) (h : s.length ≤ 9223372036854775807) : unicode_utf8_RuneCountInString s = some (rlen s : Int) := by
  have key : (lim fun k => unicode_utf8_RuneCountInString_l0 s k 0 0) = some (rlen s : Int) := by
    refine lim_of (s.length + 1) fun k hk => ?_
    rw [runeCount_l0 s s.length k 0 0 (by omega) (by omega) (by omega) (by omega)]
    simp [rlen, Lib.runeCountL, Lib.runeCount, ByteArray.size]
  unfold unicode_utf8_RuneCountInString
  rw [key]
  rfl

/-! ### Size, depth, weight -/
mutual
def nsize : api_Node → Nat
  | ⟨k, t, _, _, ks⟩ => if (k == sText) = true then rlen t else 2 + nsizes ks
def nsizes : List api_Node → Nat
  | [] => 0
  | n :: l => nsize n + nsizes l
end
mutual
def ndep : api_Node → Nat
  | ⟨_, _, _, _, ks⟩ => 1 + ndeps ks
def ndeps : List api_Node → Nat
  | [] => 0
  | n :: l => max (ndep n) (ndeps l)
end
def attrsW : List api_Attr → Nat
  | [] => 0
  | a :: l => 1 + a.Name.length + a.Value.length + attrsW l
mutual
def nwt : api_Node → Nat
  | ⟨k, t, m, a, ks⟩ => 2 + k.length + t.length + strsW m + attrsW a + nwts ks
def nwts : List api_Node → Nat
  | [] => 0
  | n :: l => nwt n + nwts l
end

theorem nsize_eq (n : api_Node) : nsize n = if isT n = true then rlen n.Text else 2 + nsizes n.Kids := by cases n; simp only [nsize, isT]; rfl
theorem size_node {n : api_Node} (h : isT n = false) : nsize n = 2 + nsizes n.Kids := by rw [nsize_eq, h]; simp
theorem ndep_eq (n : api_Node) : ndep n = 1 + ndeps n.Kids := by cases n; simp only [ndep]
theorem nwt_eq (n : api_Node) : nwt n = 2 + n.Kind.length + n.Text.length + strsW n.Marks + attrsW n.Attrs + nwts n.Kids := by cases n; simp only [nwt]

theorem nwts_app (a b : List api_Node) : nwts (a ++ b) = nwts a + nwts b := by
  induction a with
  | nil => simp [nwts]
  | cons n a ih => simp only [List.cons_append, nwts, ih]; omega
theorem nsizes_app (a b : List api_Node) : nsizes (a ++ b) = nsizes a + nsizes b := by
  induction a with
  | nil => simp [nsizes]
  | cons n a ih => simp only [List.cons_append, nsizes, ih]; omega
theorem nwts_len (l : List api_Node) : 2 * l.length ≤ nwts l := by
  induction l with
  | nil => simp
  | cons n l ih => have := nwt_eq n; simp only [nwts, List.length_cons]; omega
theorem nwt_mem {n : api_Node} : ∀ {l : List api_Node}, n ∈ l → nwt n ≤ nwts l
  | x :: l, h => by
    simp only [nwts]
    rcases List.mem_cons.1 h with rfl | h
    · omega
    · have := nwt_mem h; omega
theorem ndep_mem {n : api_Node} : ∀ {l : List api_Node}, n ∈ l → ndep n ≤ ndeps l
  | x :: l, h => by
    simp only [ndeps]
    rcases List.mem_cons.1 h with rfl | h
    · omega
    · have := ndep_mem h; omega
theorem nwts_kids (n : api_Node) : nwts n.Kids ≤ nwt n := by have := nwt_eq n; omega

theorem nsizes_le : ∀ (l : List api_Node), (∀ n ∈ l, nsize n ≤ nwt n) → nsizes l ≤ nwts l
  | [], _ => by simp [nsizes, nwts]
  | n :: l, h => by
    have h1 := h n (by simp)
    have h2 := nsizes_le l fun x hx => h x (by simp [hx])
    simp only [nsizes, nwts]; omega
theorem nsize_le (n : api_Node) : nsize n ≤ nwt n := by
  induction n using api_Node.ind with
  | h n ih =>
    have h1 := nsizes_le n.Kids ih
    have h2 := rlen_le n.Text
    rw [nsize_eq, nwt_eq]
    split <;> omega
theorem nsizes_le' (l : List api_Node) : nsizes l ≤ nwts l := nsizes_le l fun n _ => nsize_le n

theorem isText_eq (n : api_Node) : node_isText n = some (isT n) := by unfold node_isText isT; rfl

theorem total_l0 (sz : api_Node → Option Int) : ∀ (l : List api_Node) (i acc : Int), (∀ k ∈ l, sz k = some (nsize k : Int)) → 0 ≤ acc → acc + nsizes l ≤ 9223372036854775807 → node_Total_l0 sz l i acc = some (acc + nsizes l)
  | [], i, acc, _, _, _ => by simp [node_Total_l0, nsizes]
  | n :: l, i, acc, h, h0, hb => by
    simp only [nsizes] at hb
    rw [node_Total_l0, h n (by simp)]
    simp only [Option.bind_some]
    rw [w64_eq (by omega), total_l0 sz l _ _ (fun k hk => h k (by simp [hk])) (by omega) (by omega)]
    simp only [nsizes, Option.some.injEq]
    omega

theorem size_k (n : api_Node) : nwt n ≤ 1099511627776 → ∀ kr, 2 * ndep n ≤ kr → node_Size_k kr n = some (nsize n : Int) := by
  induction n using api_Node.ind with
  | h n ih =>
    intro hw kr hk
    have hd := ndep_eq n
    obtain ⟨kr, rfl⟩ : ∃ j, kr = j + 1 + 1 := ⟨kr - 2, by omega⟩
    have hwt := nwt_eq n
    have hl := nwts_len n.Kids
    have hs := nsizes_le' n.Kids
    rw [node_Size_k, isText_eq, nsize_eq]
    simp only [Option.bind_some]
    by_cases ht : isT n = true
    · simp only [ht, if_true]
      rw [runeCount_eq _ (by omega)]
      rfl
    · simp only [ht, Bool.false_eq_true, if_false]
      rw [node_Total_k, chk_eq (by omega), total_l0 (node_Size_k kr) n.Kids 0 0 (fun k hkk => ih k hkk (by have := nwt_mem hkk; omega) kr (by have := ndep_mem hkk; omega)) (by omega) (by omega)]
      simp only [Option.bind_some]
      rw [w64_eq (by omega)]
      simp only [Option.some.injEq]
      omega

theorem size_eq (n : api_Node) (h : nwt n ≤ 1099511627776) : node_Size n = some (nsize n : Int) := by
  unfold node_Size
  exact lim_of (2 * ndep n) fun k hk => size_k n h k hk

theorem total_eq (l : List api_Node) (h : nwts l ≤ 1099511627776) : node_Total l = some (nsizes l : Int) := by
  unfold node_Total
  refine lim_of (2 * ndeps l + 1) fun kr hk => ?_
  obtain ⟨kr, rfl⟩ : ∃ j, kr = j + 1 := ⟨kr - 1, by omega⟩
  have hl := nwts_len l
  have hs := nsizes_le' l
  rw [node_Total_k, chk_eq (by omega), total_l0 (node_Size_k kr) l 0 0 (fun k hkk => size_k k (by have := nwt_mem hkk; omega) kr (by have := ndep_mem hkk; omega)) (by omega) (by omega)]
  simp

/-! ### Names -/
theorem sameNames_l0 (b : List Str) : ∀ (suf pre : List Str) (i : Int), i = (pre.length : Int) → b.length = pre.length + suf.length → b.take pre.length = pre → diptychref1_sameNames_l0 b suf i = some (if pre ++ suf = b then .inr () else .inl false)
  | [], pre, i, hi, hl, ht => by
    have : pre = b := by
      rw [← ht, List.take_of_length_le]
      simp at hl; omega
    simp [diptychref1_sameNames_l0, this]
  | y :: suf, pre, i, hi, hl, ht => by
    simp only [List.length_cons] at hl
    obtain ⟨x, hx⟩ : ∃ x, b[pre.length]? = some x := ⟨b[pre.length], List.getElem?_eq_getElem (by omega)⟩
    rw [diptychref1_sameNames_l0, hi, rd_nat hx]
    simp only [Option.bind_some]
    have htk : b.take (pre.length + 1) = pre ++ [x] := by
      rw [List.take_add_one, ht, hx]
      rfl
    by_cases hxy : y = x
    · subst hxy
      simp only [beq_self_eq_true, Bool.not_true, Bool.false_eq_true, if_false]
      rw [sameNames_l0 b suf (pre ++ [y]) _ (by simp) (by simp; omega) (by simpa using htk)]
      simp
    · have : ¬ pre ++ y :: suf = b := by
        intro h
        rw [← h] at hx
        simp at hx
        exact hxy hx
      simp [hxy, this]

theorem sameNames_eq (a b : List Str) (h : a.length ≤ 9223372036854775807) : diptychref1_sameNames a b = some (decide (a = b)) := by
  unfold diptychref1_sameNames
  by_cases hl : a.length = b.length
  · simp only [hl, bne_self_eq_false, Bool.false_eq_true, if_false]
    rw [chk_eq (by omega), sameNames_l0 b a [] 0 rfl (by simp [hl]) (by simp)]
    by_cases e : a = b <;> simp [e]
  · have h1 : ((a.length : Int) != (b.length : Int)) = true := by simp; omega
    have h2 : ¬ a = b := fun e => hl (by rw [e])
    rw [if_pos h1]
    simp [h2]

/-! ### Joining, as the reference does it -/
def joinStep (out : List api_Node) (n : api_Node) : List api_Node :=
  if (isT n && n.Text == []) = true then out
  else match out.getLast? with
    | some x => if (isT n && isT x && decide (x.Marks = n.Marks)) = true then out.dropLast ++ [{ n with Text := x.Text ++ n.Text }] else out ++ [n]
    | none => out ++ [n]
def joinR (l : List api_Node) : List api_Node := l.foldl joinStep []

theorem joinStep_nil (n : api_Node) : joinStep [] n = if (isT n && n.Text == []) = true then [] else [n] := by
  unfold joinStep; rfl
theorem joinStep_snoc (o : List api_Node) (x n : api_Node) : joinStep (o ++ [x]) n = if (isT n && n.Text == []) = true then o ++ [x] else if (isT n && isT x && decide (x.Marks = n.Marks)) = true then o ++ [{ n with Text := x.Text ++ n.Text }] else o ++ [x, n] := by
  unfold joinStep
  simp

theorem joinStep_wt (o : List api_Node) (n : api_Node) : nwts (joinStep o n) ≤ nwts o + nwt n := by
  rcases snoc_cases o with rfl | ⟨o, x, rfl⟩
  · rw [joinStep_nil]
    split <;> simp [nwts]
  · rw [joinStep_snoc]
    split
    · omega
    · split
      · simp only [nwts_app, nwts, nwt_eq, List.length_append]
        omega
      · simp only [nwts_app, nwts]
        omega

theorem fold_wt : ∀ (l o : List api_Node), nwts (l.foldl joinStep o) ≤ nwts o + nwts l
  | [], o => by simp [nwts]
  | n :: l, o => by
    have h1 := joinStep_wt o n
    have h2 := fold_wt l (joinStep o n)
    simp only [List.foldl_cons, nwts]
    omega
theorem joinR_wt (l : List api_Node) : nwts (joinR l) ≤ nwts l := by
  have := fold_wt l []
  simpa [joinR, nwts] using this

end Go.Proofs.YtclohbgnaopjfaaGreatDoor

/- Nodes beside one another. -/
namespace Go.Proofs.YtclohbgnaopjfaaGreatDoor
set_option linter.unusedSimpArgs false
set_option linter.unusedVariables false
open Go

/-- Two texts with the same marks. -/
def alikeB (a b : api_Node) : Bool := isT a && isT b && decide (a.Marks = b.Marks)
def AdjOk : List api_Node → Prop
  | a :: b :: l => alikeB a b = false ∧ AdjOk (b :: l)
  | _ => True

end Go.Proofs.YtclohbgnaopjfaaGreatDoor

/- What is a name, and a value; what is wrong with a node; nodes joined: plainly. -/
namespace Go.Proofs.YtclohbgnaopjfaaGreatDoor
set_option linter.unusedSimpArgs false
set_option linter.unusedVariables false
open Go

def isValue (s : Str) : Bool := decide (s.length ≤ 40) && Lib.validD s
theorem value_eq (s : Str) (h : s.length ≤ 9223372036854775807) : node_Value s = some (isValue s) := by
  unfold node_Value unicode_utf8_ValidString isValue
  rw [chk_eq h]
  by_cases h3 : s.length ≤ 40
  · have g3 : decide ((s.length : Int) ≤ 40) = true := by simp; omega
    simp [g3, h3]
  · have g3 : decide ((s.length : Int) ≤ 40) = false := by simp; omega
    simp only [g3, Bool.false_eq_true, if_false]
    simp [h3]

/-! ### Names that rise -/
def riseAfter : Option Str → List Str → Bool
  | _, [] => true
  | last, y :: l => isName y && (match last with | none => true | some x => !(Op.bytesLess y x || y == x)) && riseAfter (some y) l
theorem riseAfter_cons (last : Option Str) (y : Str) (l : List Str) : riseAfter last (y :: l) = (isName y && (match last with | none => true | some x => !(Op.bytesLess y x || y == x)) && riseAfter (some y) l) := by cases last <;> rfl
def riseB (l : List Str) : Bool := riseAfter none l
theorem rise_l0 : ∀ (suf pre : List Str), (∀ s ∈ suf, s.length ≤ 9223372036854775807) → (pre ++ suf).length ≤ 4611686018427387904 → node_rise_l0 (pre ++ suf) suf (pre.length : Int) = some (sumB (riseAfter pre.getLast? suf))
  | [], pre, _, _ => by simp [node_rise_l0, riseAfter, sumB]
  | y :: suf, pre, h, hb => by
    have e : (pre.length : Int) + 1 = ((pre ++ [y]).length : Int) := by simp
    have ih := rise_l0 suf (pre ++ [y]) (fun s hs => h s (by simp [hs])) (by simpa using hb)
    rw [List.append_assoc, List.singleton_append, ← e, List.getLast?_append, List.getLast?_singleton] at ih
    simp only [Option.some_or] at ih
    rw [node_rise_l0, name_eq y (h y (by simp))]
    simp only [Option.bind_some]
    rw [riseAfter_cons]
    rcases Bool.eq_false_or_eq_true (isName y) with hn | hn
    rotate_left
    · simp [hn, sumB]
    · rw [hn]
      simp only [Bool.not_true, Bool.false_eq_true, if_false, Bool.true_and]
      rcases snoc_cases pre with rfl | ⟨p, x, rfl⟩
      · have g : decide ((([] : List Str).length : Int) > 0) = false := by decide
        simp only [g, Bool.false_eq_true, if_false]
        rw [ih]
        simp
      · have g : decide (((p ++ [x]).length : Int) > 0) = true := decide_eq_true (by simp only [List.length_append, List.length_cons, List.length_nil]; omega)
        have hr : rd (p ++ [x] ++ y :: suf) (w64 (((p ++ [x]).length : Int) - 1)) = some x := by
          simp only [List.length_append, List.length_cons, List.length_nil] at hb
          rw [w64_eq (by simp; omega)]
          have e2 : ((p ++ [x]).length : Int) - 1 = (p.length : Int) := by simp
          rw [e2, List.append_assoc]
          exact rd_mid p (y :: suf) x
        simp only [g, if_true, hr, Option.bind_some, List.getLast?_append, List.getLast?_singleton, Option.some_or]
        rcases Bool.eq_false_or_eq_true (Op.bytesLess y x || y == x) with hc | hc
        · simp only [hc, if_true, Bool.not_true, Bool.false_and, sumB]
        · simp only [hc, Bool.false_eq_true, if_false, Bool.not_false, Bool.true_and]
          exact ih
theorem rise_eq (l : List Str) (h : ∀ s ∈ l, s.length ≤ 9223372036854775807) (hb : l.length ≤ 4611686018427387904) : node_rise l = some (riseB l) := by
  have h0 := rise_l0 l [] h (by simpa using hb)
  have h0' : node_rise_l0 l l 0 = _ := h0
  unfold node_rise
  rw [chk_eq (by omega), h0']
  simp only [Option.bind_some, List.getLast?_nil, riseB]
  cases riseAfter none l <;> rfl

/-! ### Nodes -/
theorem eqS_l0 (b : List Str) : ∀ (suf pre : List Str) (i : Int), i = (pre.length : Int) → b.length = pre.length + suf.length → b.take pre.length = pre → slices_Equal_string_l0 b suf i = some (if pre ++ suf = b then .inr () else .inl false)
  | [], pre, i, hi, hl, ht => by
    have : pre = b := by
      rw [← ht, List.take_of_length_le]
      simp at hl; omega
    simp [slices_Equal_string_l0, this]
  | y :: suf, pre, i, hi, hl, ht => by
    simp only [List.length_cons] at hl
    obtain ⟨x, hx⟩ : ∃ x, b[pre.length]? = some x := ⟨b[pre.length], List.getElem?_eq_getElem (by omega)⟩
    rw [slices_Equal_string_l0, hi, rd_nat hx]
    simp only [Option.bind_some]
    have htk : b.take (pre.length + 1) = pre ++ [x] := by
      rw [List.take_add_one, ht, hx]
      rfl
    by_cases hxy : y = x
    · subst hxy
      simp only [beq_self_eq_true, Bool.not_true, Bool.false_eq_true, if_false]
      rw [eqS_l0 b suf (pre ++ [y]) _ (by simp) (by simp; omega) (by simpa using htk)]
      simp
    · have : ¬ pre ++ y :: suf = b := by
        intro h
        rw [← h] at hx
        simp at hx
        exact hxy hx
      simp [hxy, this]
theorem eqS_eq (a b : List Str) (h : a.length ≤ 9223372036854775807) : slices_Equal_string a b = some (decide (a = b)) := by
  unfold slices_Equal_string
  by_cases hl : a.length = b.length
  · simp only [hl, bne_self_eq_false, Bool.false_eq_true, if_false]
    rw [chk_eq (by omega), eqS_l0 b a [] 0 rfl (by simp [hl]) (by simp)]
    by_cases e : a = b <;> simp [e]
  · have h1 : ((a.length : Int) != (b.length : Int)) = true := by simp; omega
    have h2 : ¬ a = b := fun e => hl (by rw [e])
    rw [if_pos h1]
    simp [h2]
theorem alike_eq (a b : api_Node) (h : a.Marks.length ≤ 9223372036854775807) : node_alike a b = some (alikeB a b) := by
  unfold node_alike alikeB
  rw [isText_eq, isText_eq]
  simp only [Option.bind_some]
  rw [eqS_eq _ _ h]
  cases isT a <;> cases isT b <;> simp

mutual
/-- Is a node well formed? -/
def formB : api_Node → Bool
  | ⟨k, t, m, a, ks⟩ => if (k == sText) = true then (decide (t ≠ []) && Lib.validD t && riseB m && decide (a.length + ks.length = 0)) else (a.all (fun x => isValue x.Value) && isName k && decide (t = []) && decide (m = []) && riseB (a.map (·.Name)) && formBs none ks)
def formBs : Option api_Node → List api_Node → Bool
  | _, [] => true
  | last, n :: l => formB n && (match last with | none => true | some x => !alikeB x n) && formBs (some n) l
end
theorem formBs_cons (last : Option api_Node) (n : api_Node) (l : List api_Node) : formBs last (n :: l) = (formB n && (match last with | none => true | some x => !alikeB x n) && formBs (some n) l) := by cases last <;> simp only [formBs]
theorem formBs_nil (last : Option api_Node) : formBs last [] = true := by cases last <;> simp only [formBs]
theorem formB_eq (n : api_Node) : formB n = if isT n = true then (decide (n.Text ≠ []) && Lib.validD n.Text && riseB n.Marks && decide (n.Attrs.length + n.Kids.length = 0)) else (n.Attrs.all (fun x => isValue x.Value) && isName n.Kind && decide (n.Text = []) && decide (n.Marks = []) && riseB (n.Attrs.map (·.Name)) && formBs none n.Kids) := by
  cases n; simp only [formB, isT]; rfl

theorem attrsW_mem {a : api_Attr} : ∀ {l : List api_Attr}, a ∈ l → a.Name.length + a.Value.length ≤ attrsW l
  | x :: l, h => by
    simp only [attrsW]
    rcases List.mem_cons.1 h with rfl | h
    · omega
    · have := attrsW_mem h; omega
theorem attrsW_n (l : List api_Attr) : l.length ≤ attrsW l := by
  induction l with
  | nil => simp
  | cons s l ih => simp only [List.length_cons, attrsW]; omega

theorem formed_l0 : ∀ (l : List api_Attr) (i : Int) (out : List Str), (out.length + l.length) * 16 ≤ 140737488355328 → attrsW l ≤ 1099511627776 → node_formed_l0 l i out = some (if l.all (fun x => isValue x.Value) = true then .inr (out ++ l.map (·.Name)) else .inl false)
  | [], i, out, _, _ => by simp [node_formed_l0]
  | a :: l, i, out, hb, hw => by
    simp only [attrsW] at hw
    simp only [List.length_cons] at hb
    rw [node_formed_l0, value_eq _ (by omega)]
    simp only [Option.bind_some]
    rcases Bool.eq_false_or_eq_true (isValue a.Value) with hv | hv
    rotate_left
    · simp [hv]
    · simp only [hv, Bool.not_true, Bool.false_eq_true, if_false, List.all_cons, Bool.true_and]
      rw [app_eq (by simp; omega)]
      simp only [Option.bind_some]
      rw [formed_l0 l _ _ (by simp; omega) (by omega)]
      simp

theorem formed_l1 (n : api_Node) (f : api_Node → Option Bool) : ∀ (suf pre : List api_Node), n.Kids = pre ++ suf → (∀ k ∈ suf, f k = some (formB k)) → nwts n.Kids ≤ 1099511627776 → node_formed_l1 n f suf (pre.length : Int) = some (sumB (formBs pre.getLast? suf))
  | [], pre, _, _, _ => by simp [node_formed_l1, formBs_nil, sumB]
  | y :: suf, pre, hk, hf, hw => by
    have e : (pre.length : Int) + 1 = ((pre ++ [y]).length : Int) := by simp
    have ih := formed_l1 n f suf (pre ++ [y]) (by rw [hk]; simp) (fun s hs => hf s (by simp [hs])) hw
    rw [← e, List.getLast?_append, List.getLast?_singleton] at ih
    simp only [Option.some_or] at ih
    rw [node_formed_l1, hf y (by simp)]
    simp only [Option.bind_some]
    rw [formBs_cons]
    rcases Bool.eq_false_or_eq_true (formB y) with hn | hn
    rotate_left
    · simp [hn, sumB]
    · rw [hn]
      simp only [Bool.not_true, Bool.false_eq_true, if_false, Bool.true_and]
      rcases snoc_cases pre with rfl | ⟨p, x, rfl⟩
      · have g : decide ((([] : List api_Node).length : Int) > 0) = false := by decide
        simp only [g, Bool.false_eq_true, if_false]
        rw [ih]
        simp
      · have g : decide (((p ++ [x]).length : Int) > 0) = true := decide_eq_true (by simp only [List.length_append, List.length_cons, List.length_nil]; omega)
        have hl := nwts_len n.Kids
        have hr : rd n.Kids (w64 (((p ++ [x]).length : Int) - 1)) = some x := by
          rw [hk] at hl ⊢
          simp only [List.length_append, List.length_cons, List.length_nil] at hl
          rw [w64_eq (by simp; rw [hk] at hw; omega)]
          have e2 : ((p ++ [x]).length : Int) - 1 = (p.length : Int) := by simp
          rw [e2, List.append_assoc]
          exact rd_mid p (y :: suf) x
        have hx : nwt x ≤ nwts n.Kids := nwt_mem (by rw [hk]; simp)
        have hxw := nwt_eq x
        have hxm := strsW_n x.Marks
        simp only [g, if_true, hr, Option.bind_some, List.getLast?_append, List.getLast?_singleton, Option.some_or]
        rw [alike_eq x y (by omega)]
        simp only [Option.bind_some]
        rcases Bool.eq_false_or_eq_true (alikeB x y) with hc | hc
        · simp only [hc, if_true, Bool.not_true, Bool.false_and, sumB]
        · simp only [hc, Bool.false_eq_true, if_false, Bool.not_false, Bool.true_and]
          exact ih

theorem formed_k (n : api_Node) : nwt n ≤ 1099511627776 → ∀ kr, ndep n ≤ kr → node_formed_k kr n = some (formB n) := by
  induction n using api_Node.ind with
  | h n ih =>
    intro hw kr hk
    have hd := ndep_eq n
    obtain ⟨kr, rfl⟩ : ∃ j, kr = j + 1 := ⟨kr - 1, by omega⟩
    have hwt := nwt_eq n
    have hl := nwts_len n.Kids
    have hm := strsW_n n.Marks
    have ha := attrsW_n n.Attrs
    rw [node_formed_k, isText_eq, formB_eq]
    simp only [Option.bind_some]
    by_cases ht : isT n = true
    · simp only [ht, if_true]
      by_cases h1 : n.Text = []
      · simp [h1]
      · have g1 : (n.Text == []) = false := by simpa using h1
        simp only [g1, Bool.not_false, if_true]
        unfold unicode_utf8_ValidString
        rw [chk_eq (by omega)]
        simp only [Option.bind_some]
        cases hv : Lib.validD n.Text with
        | false => simp
        | true =>
          simp only [if_true]
          rw [rise_eq _ (fun s hs => by have := strsW_mem hs; omega) (by omega)]
          simp only [Option.bind_some]
          rw [w64_eq (by omega)]
          cases hr : riseB n.Marks with
          | false => simp
          | true =>
            simp only [if_true, ne_eq, h1, not_false_eq_true, decide_true, Bool.true_and, Option.some.injEq]
            rw [Bool.eq_iff_iff]
            simp only [beq_iff_eq, decide_eq_true_eq]
            omega
    · simp only [ht, Bool.false_eq_true, if_false]
      rw [chk_eq (by omega), formed_l0 _ _ _ (by simp; omega) (by omega)]
      simp only [Option.bind_some]
      cases hv : n.Attrs.all (fun x => isValue x.Value) with
      | false => simp
      | true =>
        simp only [if_true, List.nil_append, Bool.true_and]
        rw [name_eq _ (by omega)]
        simp only [Option.bind_some]
        cases h2 : isName n.Kind with
        | false => simp
        | true =>
          simp only [Bool.not_true, Bool.false_eq_true, if_false, Bool.true_and]
          by_cases h3 : n.Text = []
          · by_cases h4 : n.Marks = []
            · have g4 : decide ((n.Marks.length : Int) > 0) = false := by simp [h4]
              have g3 : (n.Text == []) = true := by simp [h3]
              simp only [g3, Bool.not_true, Bool.false_eq_true, if_false, g4]
              rw [rise_eq _ (fun s hs => by
                obtain ⟨a, ha', rfl⟩ := List.mem_map.1 hs
                have := attrsW_mem ha'; omega) (by simp; omega)]
              simp only [Option.bind_some]
              cases hr : riseB (n.Attrs.map (·.Name)) with
              | false => simp
              | true =>
                simp only [Bool.not_true, Bool.false_eq_true, if_false]
                have h0 := formed_l1 n (node_formed_k kr) n.Kids [] rfl (fun k hkk => ih k hkk (by have := nwt_mem hkk; omega) kr (by have := ndep_mem hkk; omega)) (by omega)
                have h0' : node_formed_l1 n (node_formed_k kr) n.Kids 0 = _ := h0
                rw [chk_eq (by omega), h0']
                simp only [Option.bind_some, List.getLast?_nil, h3, h4, decide_true, Bool.true_and]
                cases formBs none n.Kids <;> rfl
            · have g4 : decide ((n.Marks.length : Int) > 0) = true := by
                have := List.length_pos_iff.2 h4
                simp; omega
              have g3 : (n.Text == []) = true := by simp [h3]
              simp only [g3, Bool.not_true, Bool.false_eq_true, if_false, g4, if_true]
              simp [h4]
          · have g3 : (n.Text == []) = false := by simpa using h3
            simp only [g3, Bool.not_false, if_true]
            simp [h3]
theorem formed_eq (n : api_Node) (h : nwt n ≤ 1099511627776) : node_formed n = some (formB n) := by
  unfold node_formed
  exact lim_of (ndep n) fun kr hk => formed_k n h kr hk

mutual
def depN : api_Node → Nat
  | ⟨k, _, _, _, ks⟩ => if (k == sText) = true then 0 else depNs ks + 1
def depNs : List api_Node → Nat
  | [] => 0
  | n :: l => max (depN n) (depNs l)
end
theorem depN_eq (n : api_Node) : depN n = if isT n = true then 0 else depNs n.Kids + 1 := by cases n; simp only [depN, isT]; rfl
theorem depNs_le : ∀ (l : List api_Node), (∀ n ∈ l, depN n ≤ ndep n) → depNs l ≤ ndeps l
  | [], _ => by simp [depNs, ndeps]
  | n :: l, h => by
    have h1 := h n (by simp)
    have h2 := depNs_le l fun x hx => h x (by simp [hx])
    simp only [depNs, ndeps]; omega
theorem depN_le (n : api_Node) : depN n ≤ ndep n := by
  induction n using api_Node.ind with
  | h n ih =>
    have h1 := depNs_le n.Kids ih
    rw [depN_eq, ndep_eq]
    split <;> omega
theorem ndeps_le_nwts (l : List api_Node) (h : ∀ n ∈ l, ndep n ≤ nwt n) : ndeps l ≤ nwts l := by
  induction l with
  | nil => simp [ndeps, nwts]
  | cons k l ih =>
    have h1 := h k (by simp)
    have h2 := ih fun x hx => h x (by simp [hx])
    simp only [ndeps, nwts]; omega
theorem ndep_le (n : api_Node) : ndep n ≤ nwt n := by
  induction n using api_Node.ind with
  | h n ih =>
    have h1 := ndeps_le_nwts n.Kids ih
    have h2 := ndep_eq n
    have h3 := nwt_eq n
    omega
theorem depth_l0 (f : api_Node → Option Int) : ∀ (l : List api_Node) (i : Int) (d : Nat), (∀ k ∈ l, f k = some (depN k : Int)) → node_Depth_l0 f l i (d : Int) = some ((max d (depNs l) : Nat) : Int)
  | [], i, d, _ => by simp [node_Depth_l0, depNs]
  | n :: l, i, d, h => by
    rw [node_Depth_l0, h n (by simp)]
    simp only [Option.bind_some]
    have e : (if (depN n : Int) > (d : Int) then (depN n : Int) else (d : Int)) = ((max d (depN n) : Nat) : Int) := by split <;> omega
    rw [e, depth_l0 f l _ _ fun k hk => h k (by simp [hk])]
    simp only [depNs, Option.some.injEq]
    omega
theorem depth_k (n : api_Node) : nwt n ≤ 1099511627776 → ∀ kr, ndep n ≤ kr → node_Depth_k kr n = some (depN n : Int) := by
  induction n using api_Node.ind with
  | h n ih =>
    intro hw kr hk
    have hd := ndep_eq n
    obtain ⟨kr, rfl⟩ : ∃ j, kr = j + 1 := ⟨kr - 1, by omega⟩
    have hwt := nwt_eq n
    have hl := nwts_len n.Kids
    have hdl := depN_le n
    have hdw := ndep_le n
    rw [node_Depth_k, isText_eq]
    simp only [Option.bind_some]
    by_cases ht : isT n = true
    · simp [ht, depN_eq n]
    · have e := depN_eq n
      rw [if_neg ht] at e
      simp only [ht, Bool.false_eq_true, if_false]
      have h0 := depth_l0 (node_Depth_k kr) n.Kids 0 0 (fun k hkk => ih k hkk (by have := nwt_mem hkk; omega) kr (by have := ndep_mem hkk; omega))
      have h0' : node_Depth_l0 (node_Depth_k kr) n.Kids 0 0 = _ := h0
      rw [chk_eq (by omega), h0']
      simp only [Option.bind_some, Nat.zero_max]
      rw [w64_eq (by omega), e]
      rfl
theorem depth_eq (n : api_Node) (h : nwt n ≤ 1099511627776) : node_Depth n = some (depN n : Int) := by
  unfold node_Depth
  exact lim_of (ndep n) fun kr hk => depth_k n h kr hk

/-- What is wrong with a node. -/
def checkN (n : api_Node) : Int := if formB n = false then 2 else if 40 < depN n then 4 else if 4000 < nsize n then 5 else 0
theorem check_eq (n : api_Node) (h : nwt n ≤ 1099511627776) : node_Check n = some (checkN n) := by
  unfold node_Check checkN
  rw [formed_eq n h]
  simp only [Option.bind_some]
  cases hf : formB n with
  | false => simp
  | true =>
    simp only [Bool.not_true, Bool.false_eq_true, if_false]
    rw [depth_eq n h]
    simp only [Option.bind_some]
    by_cases hd : 40 < depN n
    · have g : decide ((depN n : Int) > 40) = true := by simp; omega
      simp [g, hd]
    · have g : decide ((depN n : Int) > 40) = false := by simp; omega
      simp only [g, Bool.false_eq_true, if_false]
      rw [size_eq n h]
      simp only [Option.bind_some, hd, if_false]
      by_cases hs : 4000 < nsize n
      · have g : decide ((nsize n : Int) > 4000) = true := by simp; omega
        simp [g, hs]
      · have g : decide ((nsize n : Int) > 4000) = false := by simp; omega
        simp only [g, Bool.false_eq_true, if_false, hs]
        simp
end Go.Proofs.YtclohbgnaopjfaaGreatDoor

/- Quoted texts, and heads of nodes, plainly: the program's and the reference's. -/
namespace Go.Proofs.YtclohbgnaopjfaaGreatDoor
set_option linter.unusedSimpArgs false
set_option linter.unusedVariables false
open Go

theorem isT_def' (n : api_Node) : (n.Kind == ([116, 101, 120, 116] : Str)) = isT n := rfl

/-! ### One byte in the place of another -/
def sub1 (c : UInt8) (new : Str) (s : Str) : Str := s.flatMap fun b => if b = c then new else [b]
theorem replaceK_one (c : UInt8) (new : Str) : ∀ s : Str, Lib.replaceK [c] new (Lib.count s [c]) s = sub1 c new s
  | [] => by rw [Lib.count_miss (by simp [Lib.index])]; rfl
  | b :: l => by
    have ih := replaceK_one c new l
    by_cases h : b = c
    · subst h
      have hix : Lib.index (b :: l) [b] = ((0 : Nat) : Int) := by rw [Lib.index]; simp [List.isPrefixOf]
      rw [Lib.count_cons_eq, Nat.add_comm, Lib.replaceK_hit _ _ _ _ 0 hix]
      simp [ih, sub1]
    · rw [Lib.count_cons_ne b c l h]
      have hp : ([c] : List UInt8).isPrefixOf (b :: l) = false := by simp [List.isPrefixOf, Ne.symm h]
      have hix : Lib.index (b :: l) [c] = if Lib.index l [c] == -1 then -1 else Lib.index l [c] + 1 := by rw [Lib.index, hp]; simp
      cases hk : Lib.count l [c] with
      | zero =>
        rw [hk] at ih
        have e : l = sub1 c new l := ih
        show b :: l = sub1 c new (b :: l)
        have e2 : sub1 c new (b :: l) = b :: sub1 c new l := by simp [sub1, h]
        rw [e2, ← e]
      | succ k =>
        obtain ⟨j, hj⟩ := Lib.index_of_count (s := l) (old := [c]) (by omega)
        have hj' : Lib.index (b :: l) [c] = ((j + 1 : Nat) : Int) := by
          have hge := Lib.index_ge l [c]
          rw [hix, if_neg (by simp; omega), hj]; omega
        rw [hk, Lib.replaceK_hit _ _ _ _ j hj] at ih
        rw [Lib.replaceK_hit _ _ _ _ (j + 1) hj']
        have e2 : sub1 c new (b :: l) = b :: sub1 c new l := by simp [sub1, h]
        rw [e2, ← ih]
        simp
theorem replaceAll_one (c : UInt8) (new : Str) (s : Str) (h : ([c] : Str) ≠ new) : Lib.replaceAll s [c] new = sub1 c new s := by
  unfold Lib.replaceAll Lib.replace
  rw [if_neg (by simpa using h)]
  have : Lib.replaceNum s [c] (-1) = Lib.count s [c] := by simp [Lib.replaceNum]
  rw [this, replaceK_one]
theorem count_le1 (c : UInt8) (s : Str) : Lib.count s [c] ≤ s.length := by rw [Lib.count_one]; exact List.count_le_length

/-! ### Quoted texts -/
def esc1 (b : UInt8) : Str := if b = 34 ∨ b = 92 then [92, b] else [b]
def esc (s : Str) : Str := s.flatMap esc1
def qt (s : Str) : Str := 34 :: (esc s ++ [34])
theorem esc_cons (b : UInt8) (s : Str) : esc (b :: s) = esc1 b ++ esc s := by simp [esc]
theorem esc_app (s t : Str) : esc (s ++ t) = esc s ++ esc t := by simp [esc]
theorem esc_le (s : Str) : (esc s).length ≤ 2 * s.length := by
  induction s with
  | nil => simp [esc]
  | cons b s ih => rw [esc_cons]; simp only [List.length_append, esc1, List.length_cons]; split <;> simp <;> omega
theorem qt_le (s : Str) : (qt s).length ≤ 2 * s.length + 2 := by have := esc_le s; simp [qt]; omega
theorem esc_two (s : Str) : sub1 34 [92, 34] (sub1 92 [92, 92] s) = esc s := by
  induction s with
  | nil => rfl
  | cons b s ih =>
    have e1 : sub1 92 [92, 92] (b :: s) = (if b = 92 then [92, 92] else [b]) ++ sub1 92 [92, 92] s := rfl
    have e2 : ∀ x y : Str, sub1 34 [92, 34] (x ++ y) = sub1 34 [92, 34] x ++ sub1 34 [92, 34] y := fun x y => by simp [sub1]
    rw [e1, e2, ih, esc_cons]
    congr 1
    by_cases h : b = 92
    · subst h; simp [sub1, esc1]
    · by_cases h2 : b = 34
      · subst h2; simp [sub1, esc1]
      · simp [sub1, esc1, h, h2]
theorem sub1_le (c : UInt8) (x y : UInt8) (s : Str) : (sub1 c [x, y] s).length ≤ 2 * s.length := by
  induction s with
  | nil => simp [sub1]
  | cons b s ih =>
    have e1 : sub1 c [x, y] (b :: s) = (if b = c then [x, y] else [b]) ++ sub1 c [x, y] s := rfl
    rw [e1, List.length_append, List.length_cons]
    split <;> simp <;> omega
theorem quote_eq (s : Str) (h : s.length ≤ 1073741824) : codec_Quote s = some (qt s) := by
  have hc : ∀ (c : UInt8) (t : Str), Lib.countB (ba t) (ba [c]) ≤ t.length := fun c t => by
    have := count_le1 c t
    simpa [Lib.countB] using this
  have h1 := hc 92 s
  have hl := sub1_le 92 92 92 s
  have h2 := hc 34 (sub1 92 [92, 92] s)
  have he := esc_le s
  unfold codec_Quote strings_ReplaceAll
  rw [chk_eq (by simp only [List.length_cons, List.length_nil]; omega), replaceAll_one _ _ _ (by simp)]
  simp only [Option.bind_some]
  rw [chk_eq (by simp only [List.length_cons, List.length_nil]; omega), replaceAll_one _ _ _ (by simp), esc_two]
  simp only [Option.bind_some]
  rw [chk_eq (by simp; omega), chk_eq (by simp; omega)]
  rfl

/-! ### Heads -/
def atx (a : api_Attr) : Str := a.Name ++ 61 :: qt a.Value
def hd (n : api_Node) : Str :=
  if isT n = true then (if n.Marks = [] then [] else 60 :: (Lib.join n.Marks [44] ++ [62]))
  else if n.Attrs = [] then n.Kind else n.Kind ++ 40 :: (Lib.join (n.Attrs.map atx) [32] ++ [41])

theorem joinTail_cons (sep x : Str) (r : List Str) : Lib.joinTail sep (x :: r) = sep ++ x ++ Lib.joinTail sep r := by simp [Lib.joinTail]
theorem joinTail_le (c : UInt8) (l : List Str) : (Lib.joinTail [c] l).length ≤ strsW l := by
  induction l with
  | nil => simp [Lib.joinTail]
  | cons s l ih => rw [joinTail_cons]; simp only [List.length_append, List.length_cons, List.length_nil, strsW]; omega
theorem join_le (c : UInt8) (l : List Str) : (Lib.join l [c]).length ≤ strsW l := by
  cases l with
  | nil => simp [Lib.join]
  | cons s l => rw [Lib.join_cons]; have := joinTail_le c l; simp only [List.length_append, strsW]; omega
theorem strsW_len' (l : List Str) : l.length ≤ strsW l := by
  induction l with
  | nil => simp
  | cons s l ih => simp only [List.length_cons, strsW]; omega
theorem attrsW_len' (l : List api_Attr) : l.length ≤ attrsW l := by
  induction l with
  | nil => simp
  | cons s l ih => simp only [List.length_cons, attrsW]; omega
theorem atx_le (a : api_Attr) : (atx a).length ≤ a.Name.length + 2 * a.Value.length + 3 := by
  have := qt_le a.Value
  simp only [atx, List.length_append, List.length_cons]; omega
theorem atxs_le (l : List api_Attr) : strsW (l.map atx) ≤ 4 * attrsW l := by
  induction l with
  | nil => simp [strsW]
  | cons a l ih => have := atx_le a; simp only [List.map_cons, strsW, attrsW]; omega

theorem sjoin_eq (l : List Str) (sep : Str) (h1 : l.length ≤ 140737488355328) (h2 : (Lib.join l sep).length ≤ 140737488355328) : strings_Join l sep = some (Lib.join l sep) := by
  unfold strings_Join; rw [chk_eq ⟨h1, h2⟩]

theorem head_l0 : ∀ (l : List api_Attr) (i : Int) (out : List Str), out.length + attrsW l ≤ 1073741824 → codec_Head_l0 l i out = some (out ++ l.map atx)
  | [], i, out, _ => by simp [codec_Head_l0]
  | a :: l, i, out, h => by
    simp only [attrsW] at h
    have hq := qt_le a.Value
    rw [codec_Head_l0, chk_eq (by simp; omega), quote_eq _ (by omega)]
    simp only [Option.bind_some]
    rw [chk_eq (by simp; omega), app_eq (by simp; omega)]
    simp only [Option.bind_some]
    rw [head_l0 l _ _ (by simp; omega)]
    simp [atx]
theorem head_eq (n : api_Node) (h : nwt n ≤ 1073741824) : codec_Head n = some (hd n) := by
  have hw := nwt_eq n
  have hm := strsW_len' n.Marks
  have ha := attrsW_len' n.Attrs
  unfold codec_Head hd
  rw [isT_def']
  by_cases ht : isT n = true
  · simp only [ht, if_true]
    have hj := join_le 44 n.Marks
    by_cases hm0 : n.Marks = []
    · simp [hm0]
    · have g : ((n.Marks.length : Int) == 0) = false := by simpa using hm0
      simp only [g, Bool.false_eq_true, if_false, hm0]
      rw [sjoin_eq _ _ (by omega) (by omega)]
      simp only [Option.bind_some]
      rw [chk_eq (by simp; omega), chk_eq (by simp; omega)]
      rfl
  · simp only [ht, Bool.false_eq_true, if_false]
    have hj := join_le 32 (n.Attrs.map atx)
    have hj2 := atxs_le n.Attrs
    by_cases ha0 : n.Attrs = []
    · simp [ha0]
    · have g : ((n.Attrs.length : Int) == 0) = false := by simpa using ha0
      simp only [g, Bool.false_eq_true, if_false, ha0]
      rw [chk_eq (by omega), head_l0 _ _ _ (by simp; omega)]
      simp only [Option.bind_some, List.nil_append]
      rw [chk_eq (by simp; omega), sjoin_eq _ _ (by simp; omega) (by omega)]
      simp only [Option.bind_some]
      rw [chk_eq (by simp; omega), chk_eq (by simp; omega)]
      simp

end Go.Proofs.YtclohbgnaopjfaaGreatDoor

/- How nodes are written, plainly. -/
namespace Go.Proofs.YtclohbgnaopjfaaGreatDoor
set_option linter.unusedSimpArgs false
set_option linter.unusedVariables false
open Go

mutual
def writeN : api_Node → Str
  | ⟨k, t, m, a, ks⟩ => if (k == sText) = true then qt t ++ hd ⟨k, t, m, a, ks⟩ else hd ⟨k, t, m, a, ks⟩ ++ 91 :: (writeL ks ++ [93])
def writeL : List api_Node → Str
  | [] => []
  | n :: l => writeN n ++ writeL l
end
theorem writeN_eq (n : api_Node) : writeN n = if isT n = true then qt n.Text ++ hd n else hd n ++ 91 :: (writeL n.Kids ++ [93]) := by cases n; simp only [writeN, isT]; rfl
theorem writeL_app (a b : List api_Node) : writeL (a ++ b) = writeL a ++ writeL b := by
  induction a with
  | nil => simp [writeL]
  | cons n a ih => simp only [List.cons_append, writeL, ih, List.append_assoc]
theorem hd_le (n : api_Node) : (hd n).length ≤ n.Kind.length + strsW n.Marks + 4 * attrsW n.Attrs + 2 := by
  unfold hd
  have h1 := join_le 44 n.Marks
  have h2 := join_le 32 (n.Attrs.map atx)
  have h3 := atxs_le n.Attrs
  repeat' split
  all_goals first
    | omega
    | (simp only [List.length_append, List.length_cons, List.length_nil]; omega)
theorem writeL_le : ∀ (l : List api_Node), (∀ n ∈ l, (writeN n).length ≤ 4 * nwt n) → (writeL l).length ≤ 4 * nwts l
  | [], _ => by simp [writeL, nwts]
  | n :: l, h => by
    have h1 := h n (by simp)
    have h2 := writeL_le l fun x hx => h x (by simp [hx])
    simp only [writeL, nwts, List.length_append]; omega
theorem writeN_le (n : api_Node) : (writeN n).length ≤ 4 * nwt n := by
  induction n using api_Node.ind with
  | h n ih =>
    have h1 := writeL_le n.Kids ih
    have h2 := nwt_eq n
    have h3 := hd_le n
    have h4 := qt_le n.Text
    rw [writeN_eq]
    split
    · simp only [List.length_append]; omega
    · simp only [List.length_append, List.length_cons, List.length_nil]; omega

theorem wstr_eq (s acc : Str) (h : acc.length + s.length ≤ 140737488355328) : strings_Builder_WriteString_x s acc = some ((s.length : Int), acc ++ s) := by
  unfold strings_Builder_WriteString_x strings_Builder_copyCheck_x
  simp only [Option.bind_some]
  rw [app_eq (by omega)]
  rfl
theorem write_l0 (f : api_Node → Str → Option Str) : ∀ (l : List api_Node) (i : Int) (acc : Str), (∀ k ∈ l, ∀ a : Str, a.length + 4 * nwt k ≤ 4294967296 → f k a = some (a ++ writeN k)) → acc.length + 4 * nwts l ≤ 4294967296 →
    codec_write_x_l0 f l i acc = some (acc ++ writeL l)
  | [], i, acc, _, _ => by simp [codec_write_x_l0, writeL]
  | n :: l, i, acc, h, hb => by
    simp only [nwts] at hb
    have hle := writeN_le n
    rw [codec_write_x_l0, h n (by simp) acc (by omega)]
    simp only [Option.bind_some]
    rw [write_l0 f l _ _ (fun k hk => h k (by simp [hk])) (by simp; omega)]
    simp [writeL]
theorem write_k (n : api_Node) : nwt n ≤ 1073741824 → ∀ kr, ndep n ≤ kr → ∀ acc : Str, acc.length + 4 * nwt n ≤ 4294967296 → codec_write_x_k kr n acc = some (acc ++ writeN n) := by
  induction n using api_Node.ind with
  | h n ih =>
    intro hw kr hk acc ha
    have hd' := ndep_eq n
    obtain ⟨kr, rfl⟩ : ∃ j, kr = j + 1 := ⟨kr - 1, by omega⟩
    have hwt := nwt_eq n
    have hl := nwts_len n.Kids
    have hh := hd_le n
    have hq := qt_le n.Text
    have en : (n.Kind == ([116, 101, 120, 116] : Str)) = isT n := rfl
    rw [codec_write_x_k, en, writeN_eq]
    by_cases ht : isT n = true
    · simp only [ht, if_true]
      rw [quote_eq _ (by omega)]
      simp only [Option.bind_some]
      rw [head_eq n hw]
      simp only [Option.bind_some]
      rw [chk_eq (by omega), wstr_eq _ _ (by simp; omega)]
      rfl
    · simp only [ht, Bool.false_eq_true, if_false]
      rw [head_eq n hw]
      simp only [Option.bind_some]
      rw [chk_eq (by simp; omega), wstr_eq _ _ (by simp; omega)]
      simp only [Option.bind_some]
      have hwl := writeL_le n.Kids fun k _ => writeN_le k
      rw [chk_eq (by omega), write_l0 (codec_write_x_k kr) n.Kids 0 _ (fun k hkk a ha => ih k hkk (by have := nwt_mem hkk; omega) kr (by have := ndep_mem hkk; omega) a ha) (by simp; omega)]
      simp only [Option.bind_some]
      rw [wstr_eq _ _ (by simp; omega)]
      simp
theorem write_eq (n : api_Node) (h : nwt n ≤ 1073741824) : codec_write_x n [] = some (writeN n) := by
  unfold codec_write_x
  have : (lim fun kr => codec_write_x_k kr n []) = some ([] ++ writeN n) := lim_of (ndep n) fun kr hk => write_k n h kr hk [] (by simp; omega)
  exact this

end Go.Proofs.YtclohbgnaopjfaaGreatDoor

/- Print, plainly. -/
namespace Go.Proofs.YtclohbgnaopjfaaGreatDoor
set_option linter.unusedSimpArgs false
set_option linter.unusedVariables false
open Go

theorem print_eq (n : api_Node) (h : nwt n ≤ 268435456) : codec_Print n = some (if checkN n = 0 then (writeN n, 0) else ([], checkN n)) := by
  have hle := writeN_le n
  unfold codec_Print
  rw [check_eq n (by omega)]
  simp only [Option.bind_some]
  by_cases h0 : checkN n = 0
  · simp only [h0, bne_self_eq_false, Bool.false_eq_true, if_false, if_true]
    rw [write_eq n (by omega)]
    simp only [Option.bind_some]
    unfold strings_Builder_String_x
    rw [chk_eq (by omega)]
    rfl
  · have g : (checkN n != (0 : Int)) = true := by simpa using h0
    simp only [g, if_true, h0, if_false]

abbrev xN (l : List api_Node) : api_Node := ⟨[120], [], [], [], l⟩
theorem write_x (l : List api_Node) : writeN (xN l) = 120 :: 91 :: (writeL l ++ [93]) := by
  rw [writeN_eq]
  rfl
theorem xN_wt (l : List api_Node) : nwt (xN l) = nwts l + 3 := by
  simp only [nwt, strsW, attrsW, List.length_cons, List.length_nil]; omega
end Go.Proofs.YtclohbgnaopjfaaGreatDoor

/- PrintAll, plainly. -/
namespace Go.Proofs.YtclohbgnaopjfaaGreatDoor
set_option linter.unusedSimpArgs false
set_option linter.unusedVariables false
open Go

theorem printAll_eq (l : List api_Node) (h : nwts l ≤ 268435400) : codec_PrintAll l = some (if checkN (xN l) = 0 then (writeL l, 0) else ([], checkN (xN l))) := by
  have hw := xN_wt l
  have hle := writeL_le l fun k _ => writeN_le k
  unfold codec_PrintAll
  rw [print_eq _ (by rw [hw]; omega)]
  simp only [Option.bind_some]
  by_cases h0 : checkN (xN l) = 0
  · simp only [h0, if_true, bne_self_eq_false, Bool.false_eq_true, if_false]
    have hs : sl (writeN (xN l)) (2 : Int) (w64 (((writeN (xN l)).length : Int) - (1 : Int))) = some (writeL l) := by
      rw [write_x]
      have hl : (120 :: 91 :: (writeL l ++ [93]) : Str).length = (writeL l).length + 3 := by simp
      rw [hl, w64_eq (by omega)]
      have e : (((writeL l).length + 3 : Nat) : Int) - 1 = (((writeL l).length + 2 : Nat) : Int) := by omega
      have := sl_nat (l := (120 :: 91 :: (writeL l ++ [93]) : Str)) (a := 2) (b := (writeL l).length + 2) (by omega) (by omega)
      rw [e]
      simpa using this
    rw [hs]
    rfl
  · have g : (checkN (xN l) != (0 : Int)) = true := by simpa using h0
    simp only [h0, if_false, g, if_true]

end Go.Proofs.YtclohbgnaopjfaaGreatDoor
