/- Nodes, plainly: weight, size, joining. -/
import Derived.Test.YtclohbgnaopjfaaDoorSmall
import Derived.Lib.RuneCount
namespace Go.Proofs.YtclohbgnaopjfaaDoor
set_option linter.unusedSimpArgs false
set_option linter.unusedVariables false
open Go

def isT (n : api_Node) : Bool := n.Kind == sText
theorem isT_def (n : api_Node) : (n.Kind == ([116, 101, 120, 116] : Str)) = isT n := rfl

theorem api_Node.ind {p : api_Node → Prop} (h : ∀ n : api_Node, (∀ k ∈ n.Kids, p k) → p n) : ∀ n, p n
  | ⟨a, b, c, d, ks⟩ => h _ fun k hk => api_Node.ind h k
  termination_by n => n
  decreasing_by
    have : SizeOf.sizeOf k < SizeOf.sizeOf ks := List.sizeOf_lt_of_mem hk
    simp only [api_Node.mk.sizeOf_spec]
    omega

/-! ### Texts' code points -/
def rlen (s : Str) : Nat := Lib.runeCountL s
theorem rlen_le (s : Str) : rlen s ≤ s.length := by
  have := Lib.runeCountFrom_le ⟨s.toArray⟩ (ByteArray.size ⟨s.toArray⟩) 0
  simpa [rlen, Lib.runeCountL, Lib.runeCount, ByteArray.size] using this

theorem runeCount_l0 (s : Str) : ∀ (f k : Nat) (n : Int) (pos : Nat), s.length - pos ≤ f → f < k → 0 ≤ n → n + f ≤ 9223372036854775807 → unicode_utf8_RuneCountInString_l0 s k n pos = some (n + Lib.runeCountFrom ⟨s.toArray⟩ f pos) := by
  intro f
  induction f with
  | zero =>
    intro k n pos h1 h2 h3 h4
    obtain ⟨k, rfl⟩ : ∃ j, k = j + 1 := ⟨k - 1, by omega⟩
    have : ¬ pos < s.length := by omega
    simp [unicode_utf8_RuneCountInString_l0, this, Lib.runeCountFrom]
  | succ f ih =>
    intro k n pos h1 h2 h3 h4
    obtain ⟨k, rfl⟩ : ∃ j, k = j + 1 := ⟨k - 1, by omega⟩
    rw [unicode_utf8_RuneCountInString_l0]
    by_cases hp : pos < s.length
    · have hw := Lib.decode_width_pos ⟨s.toArray⟩ pos (by simpa [ByteArray.size] using hp)
      simp only [hp, decide_true, if_true]
      rw [w64_eq (by omega), ih k (n + 1) _ (by simp only [runeW]; omega) (by omega) (by omega) (by omega)]
      have hs : pos < ByteArray.size ⟨s.toArray⟩ := by simpa [ByteArray.size] using hp
      simp only [Lib.runeCountFrom, hs, if_true, runeW, Option.some.injEq]
      omega
    · have hs : ¬ pos < ByteArray.size ⟨s.toArray⟩ := by simpa [ByteArray.size] using hp
      simp [hp, Lib.runeCountFrom, hs]

theorem runeCount_eq (s : Str) (h : s.length ≤ 9223372036854775807) : unicode_utf8_RuneCountInString s = some (rlen s : Int) := by
  have key : (lim fun k => unicode_utf8_RuneCountInString_l0 s k 0 0) = some (rlen s : Int) := by
    refine lim_of (s.length + 1) fun k hk => ?_
    rw [runeCount_l0 s s.length k 0 0 (by omega) (by omega) (by omega) (by omega)]
    simp [rlen, Lib.runeCountL, Lib.runeCount, ByteArray.size]
  unfold unicode_utf8_RuneCountInString
  rw [key]
  rfl

/-! ### Size, depth, weight -/
mutual
def nsize : api_Node → Nat
  | ⟨k, t, _, _, ks⟩ => if (k == sText) = true then rlen t else 2 + nsizes ks
def nsizes : List api_Node → Nat
  | [] => 0
  | n :: l => nsize n + nsizes l
end
mutual
def ndep : api_Node → Nat
  | ⟨_, _, _, _, ks⟩ => 1 + ndeps ks
def ndeps : List api_Node → Nat
  | [] => 0
  | n :: l => max (ndep n) (ndeps l)
end
def attrsW : List api_Attr → Nat
  | [] => 0
  | a :: l => 1 + a.Name.length + a.Value.length + attrsW l
mutual
def nwt : api_Node → Nat
  | ⟨k, t, m, a, ks⟩ => 2 + k.length + t.length + strsW m + attrsW a + nwts ks
def nwts : List api_Node → Nat
  | [] => 0
  | n :: l => nwt n + nwts l
end

theorem nsize_eq (n : api_Node) : nsize n = if isT n = true then rlen n.Text else 2 + nsizes n.Kids := by cases n; simp only [nsize, isT]; rfl
theorem size_node {n : api_Node} (h : isT n = false) : nsize n = 2 + nsizes n.Kids := by rw [nsize_eq, h]; simp
theorem ndep_eq (n : api_Node) : ndep n = 1 + ndeps n.Kids := by cases n; simp only [ndep]
theorem nwt_eq (n : api_Node) : nwt n = 2 + n.Kind.length + n.Text.length + strsW n.Marks + attrsW n.Attrs + nwts n.Kids := by cases n; simp only [nwt]

theorem nwts_app (a b : List api_Node) : nwts (a ++ b) = nwts a + nwts b := by
  induction a with
  | nil => simp [nwts]
  | cons n a ih => simp only [List.cons_append, nwts, ih]; omega
theorem nsizes_app (a b : List api_Node) : nsizes (a ++ b) = nsizes a + nsizes b := by
  induction a with
  | nil => simp [nsizes]
  | cons n a ih => simp only [List.cons_append, nsizes, ih]; omega
theorem nwts_len (l : List api_Node) : 2 * l.length ≤ nwts l := by
  induction l with
  | nil => simp
  | cons n l ih => have := nwt_eq n; simp only [nwts, List.length_cons]; omega
theorem nwt_mem {n : api_Node} : ∀ {l : List api_Node}, n ∈ l → nwt n ≤ nwts l
  | x :: l, h => by
    simp only [nwts]
    rcases List.mem_cons.1 h with rfl | h
    · omega
    · have := nwt_mem h; omega
theorem ndep_mem {n : api_Node} : ∀ {l : List api_Node}, n ∈ l → ndep n ≤ ndeps l
  | x :: l, h => by
    simp only [ndeps]
    rcases List.mem_cons.1 h with rfl | h
    · omega
    · have := ndep_mem h; omega
theorem nwts_kids (n : api_Node) : nwts n.Kids ≤ nwt n := by have := nwt_eq n; omega

theorem nsizes_le : ∀ (l : List api_Node), (∀ n ∈ l, nsize n ≤ nwt n) → nsizes l ≤ nwts l
  | [], _ => by simp [nsizes, nwts]
  | n :: l, h => by
    have h1 := h n (by simp)
    have h2 := nsizes_le l fun x hx => h x (by simp [hx])
    simp only [nsizes, nwts]; omega
theorem nsize_le (n : api_Node) : nsize n ≤ nwt n := by
  induction n using api_Node.ind with
  | h n ih =>
    have h1 := nsizes_le n.Kids ih
    have h2 := rlen_le n.Text
    rw [nsize_eq, nwt_eq]
    split <;> omega
theorem nsizes_le' (l : List api_Node) : nsizes l ≤ nwts l := nsizes_le l fun n _ => nsize_le n

theorem isText_eq (n : api_Node) : node_isText n = some (isT n) := by unfold node_isText isT; rfl

theorem total_l0 (sz : api_Node → Option Int) : ∀ (l : List api_Node) (i acc : Int), (∀ k ∈ l, sz k = some (nsize k : Int)) → 0 ≤ acc → acc + nsizes l ≤ 9223372036854775807 → node_Total_l0 sz l i acc = some (acc + nsizes l)
  | [], i, acc, _, _, _ => by simp [node_Total_l0, nsizes]
  | n :: l, i, acc, h, h0, hb => by
    simp only [nsizes] at hb
    rw [node_Total_l0, h n (by simp)]
    simp only [Option.bind_some]
    rw [w64_eq (by omega), total_l0 sz l _ _ (fun k hk => h k (by simp [hk])) (by omega) (by omega)]
    simp only [nsizes, Option.some.injEq]
    omega

theorem size_k (n : api_Node) : nwt n ≤ 1099511627776 → ∀ kr, 2 * ndep n ≤ kr → node_Size_k kr n = some (nsize n : Int) := by
  induction n using api_Node.ind with
  | h n ih =>
    intro hw kr hk
    have hd := ndep_eq n
    obtain ⟨kr, rfl⟩ : ∃ j, kr = j + 1 + 1 := ⟨kr - 2, by omega⟩
    have hwt := nwt_eq n
    have hl := nwts_len n.Kids
    have hs := nsizes_le' n.Kids
    rw [node_Size_k, isText_eq, nsize_eq]
    simp only [Option.bind_some]
    by_cases ht : isT n = true
    · simp only [ht, if_true]
      rw [runeCount_eq _ (by omega)]
      rfl
    · simp only [ht, Bool.false_eq_true, if_false]
      rw [node_Total_k, chk_eq (by omega), total_l0 (node_Size_k kr) n.Kids 0 0 (fun k hkk => ih k hkk (by have := nwt_mem hkk; omega) kr (by have := ndep_mem hkk; omega)) (by omega) (by omega)]
      simp only [Option.bind_some]
      rw [w64_eq (by omega)]
      simp only [Option.some.injEq]
      omega

theorem size_eq (n : api_Node) (h : nwt n ≤ 1099511627776) : node_Size n = some (nsize n : Int) := by
  unfold node_Size
  exact lim_of (2 * ndep n) fun k hk => size_k n h k hk

theorem total_eq (l : List api_Node) (h : nwts l ≤ 1099511627776) : node_Total l = some (nsizes l : Int) := by
  unfold node_Total
  refine lim_of (2 * ndeps l + 1) fun kr hk => ?_
  obtain ⟨kr, rfl⟩ : ∃ j, kr = j + 1 := ⟨kr - 1, by omega⟩
  have hl := nwts_len l
  have hs := nsizes_le' l
  rw [node_Total_k, chk_eq (by omega), total_l0 (node_Size_k kr) l 0 0 (fun k hkk => size_k k (by have := nwt_mem hkk; omega) kr (by have := ndep_mem hkk; omega)) (by omega) (by omega)]
  simp

/-! ### Names -/
theorem sameNames_l0 (b : List Str) : ∀ (suf pre : List Str) (i : Int), i = (pre.length : Int) → b.length = pre.length + suf.length → b.take pre.length = pre → diptychref1_sameNames_l0 b suf i = some (if pre ++ suf = b then .inr () else .inl false)
  | [], pre, i, hi, hl, ht => by
    have : pre = b := by
      rw [← ht, List.take_of_length_le]
      simp at hl; omega
    simp [diptychref1_sameNames_l0, this]
  | y :: suf, pre, i, hi, hl, ht => by
    simp only [List.length_cons] at hl
    obtain ⟨x, hx⟩ : ∃ x, b[pre.length]? = some x := ⟨b[pre.length], List.getElem?_eq_getElem (by omega)⟩
    rw [diptychref1_sameNames_l0, hi, rd_nat hx]
    simp only [Option.bind_some]
    have htk : b.take (pre.length + 1) = pre ++ [x] := by
      rw [List.take_add_one, ht, hx]
      rfl
    by_cases hxy : y = x
    · subst hxy
      simp only [beq_self_eq_true, Bool.not_true, Bool.false_eq_true, if_false]
      rw [sameNames_l0 b suf (pre ++ [y]) _ (by simp) (by simp; omega) (by simpa using htk)]
      simp
    · have : ¬ pre ++ y :: suf = b := by
        intro h
        rw [← h] at hx
        simp at hx
        exact hxy hx
      simp [hxy, this]

theorem sameNames_eq (a b : List Str) (h : a.length ≤ 9223372036854775807) : diptychref1_sameNames a b = some (decide (a = b)) := by
  unfold diptychref1_sameNames
  by_cases hl : a.length = b.length
  · simp only [hl, bne_self_eq_false, Bool.false_eq_true, if_false]
    rw [chk_eq (by omega), sameNames_l0 b a [] 0 rfl (by simp [hl]) (by simp)]
    by_cases e : a = b <;> simp [e]
  · have h1 : ((a.length : Int) != (b.length : Int)) = true := by simp; omega
    have h2 : ¬ a = b := fun e => hl (by rw [e])
    rw [if_pos h1]
    simp [h2]

/-! ### Joining, as the reference does it -/
def joinStep (out : List api_Node) (n : api_Node) : List api_Node :=
  if (isT n && n.Text == []) = true then out
  else match out.getLast? with
    | some x => if (isT n && isT x && decide (x.Marks = n.Marks)) = true then out.dropLast ++ [{ n with Text := x.Text ++ n.Text }] else out ++ [n]
    | none => out ++ [n]
def joinR (l : List api_Node) : List api_Node := l.foldl joinStep []

theorem joinStep_nil (n : api_Node) : joinStep [] n = if (isT n && n.Text == []) = true then [] else [n] := by
  unfold joinStep; rfl
theorem joinStep_snoc (o : List api_Node) (x n : api_Node) : joinStep (o ++ [x]) n = if (isT n && n.Text == []) = true then o ++ [x] else if (isT n && isT x && decide (x.Marks = n.Marks)) = true then o ++ [{ n with Text := x.Text ++ n.Text }] else o ++ [x, n] := by
  unfold joinStep
  simp

theorem joinStep_wt (o : List api_Node) (n : api_Node) : nwts (joinStep o n) ≤ nwts o + nwt n := by
  rcases snoc_cases o with rfl | ⟨o, x, rfl⟩
  · rw [joinStep_nil]
    split <;> simp [nwts]
  · rw [joinStep_snoc]
    split
    · omega
    · split
      · simp only [nwts_app, nwts, nwt_eq, List.length_append]
        omega
      · simp only [nwts_app, nwts]
        omega

theorem fold_wt : ∀ (l o : List api_Node), nwts (l.foldl joinStep o) ≤ nwts o + nwts l
  | [], o => by simp [nwts]
  | n :: l, o => by
    have h1 := joinStep_wt o n
    have h2 := fold_wt l (joinStep o n)
    simp only [List.foldl_cons, nwts]
    omega
theorem joinR_wt (l : List api_Node) : nwts (joinR l) ≤ nwts l := by
  have := fold_wt l []
  simpa [joinR, nwts] using this

end Go.Proofs.YtclohbgnaopjfaaDoor
