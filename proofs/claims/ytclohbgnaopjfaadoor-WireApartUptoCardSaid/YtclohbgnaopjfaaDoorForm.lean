/- What is a name, and a value; what is wrong with a node; nodes joined: plainly. -/
import Derived.Test.YtclohbgnaopjfaaDoorNodeAdj
import Derived.Test.YtclohbgnaopjfaaDoorName
import Derived.Lib.SlTrimSet
import Derived.Lib.ValidU
namespace Go.Proofs.YtclohbgnaopjfaaDoor
set_option linter.unusedSimpArgs false
set_option linter.unusedVariables false
open Go

def isValue (s : Str) : Bool := decide (s.length ≤ 40) && Lib.validD s
theorem value_eq (s : Str) (h : s.length ≤ 9223372036854775807) : node_Value s = some (isValue s) := by
  unfold node_Value unicode_utf8_ValidString isValue
  rw [chk_eq h]
  by_cases h3 : s.length ≤ 40
  · have g3 : decide ((s.length : Int) ≤ 40) = true := by simp; omega
    simp [g3, h3]
  · have g3 : decide ((s.length : Int) ≤ 40) = false := by simp; omega
    simp only [g3, Bool.false_eq_true, if_false]
    simp [h3]

/-! ### Names that rise -/
def riseAfter : Option Str → List Str → Bool
  | _, [] => true
  | last, y :: l => isName y && (match last with | none => true | some x => !(Op.bytesLess y x || y == x)) && riseAfter (some y) l
theorem riseAfter_cons (last : Option Str) (y : Str) (l : List Str) : riseAfter last (y :: l) = (isName y && (match last with | none => true | some x => !(Op.bytesLess y x || y == x)) && riseAfter (some y) l) := by cases last <;> rfl
def riseB (l : List Str) : Bool := riseAfter none l
theorem rise_l0 : ∀ (suf pre : List Str), (∀ s ∈ suf, s.length ≤ 9223372036854775807) → (pre ++ suf).length ≤ 4611686018427387904 → node_rise_l0 (pre ++ suf) suf (pre.length : Int) = some (sumB (riseAfter pre.getLast? suf))
  | [], pre, _, _ => by simp [node_rise_l0, riseAfter, sumB]
  | y :: suf, pre, h, hb => by
    have e : (pre.length : Int) + 1 = ((pre ++ [y]).length : Int) := by simp
    have ih := rise_l0 suf (pre ++ [y]) (fun s hs => h s (by simp [hs])) (by simpa using hb)
    rw [List.append_assoc, List.singleton_append, ← e, List.getLast?_append, List.getLast?_singleton] at ih
    simp only [Option.some_or] at ih
    rw [node_rise_l0, name_eq y (h y (by simp))]
    simp only [Option.bind_some]
    rw [riseAfter_cons]
    rcases Bool.eq_false_or_eq_true (isName y) with hn | hn
    rotate_left
    · simp [hn, sumB]
    · rw [hn]
      simp only [Bool.not_true, Bool.false_eq_true, if_false, Bool.true_and]
      rcases snoc_cases pre with rfl | ⟨p, x, rfl⟩
      · have g : decide ((([] : List Str).length : Int) > 0) = false := by decide
        simp only [g, Bool.false_eq_true, if_false]
        rw [ih]
        simp
      · have g : decide (((p ++ [x]).length : Int) > 0) = true := decide_eq_true (by simp only [List.length_append, List.length_cons, List.length_nil]; omega)
        have hr : rd (p ++ [x] ++ y :: suf) (w64 (((p ++ [x]).length : Int) - 1)) = some x := by
          simp only [List.length_append, List.length_cons, List.length_nil] at hb
          rw [w64_eq (by simp; omega)]
          have e2 : ((p ++ [x]).length : Int) - 1 = (p.length : Int) := by simp
          rw [e2, List.append_assoc]
          exact rd_mid p (y :: suf) x
        simp only [g, if_true, hr, Option.bind_some, List.getLast?_append, List.getLast?_singleton, Option.some_or]
        rcases Bool.eq_false_or_eq_true (Op.bytesLess y x || y == x) with hc | hc
        · simp only [hc, if_true, Bool.not_true, Bool.false_and, sumB]
        · simp only [hc, Bool.false_eq_true, if_false, Bool.not_false, Bool.true_and]
          exact ih
theorem rise_eq (l : List Str) (h : ∀ s ∈ l, s.length ≤ 9223372036854775807) (hb : l.length ≤ 4611686018427387904) : node_rise l = some (riseB l) := by
  have h0 := rise_l0 l [] h (by simpa using hb)
  have h0' : node_rise_l0 l l 0 = _ := h0
  unfold node_rise
  rw [chk_eq (by omega), h0']
  simp only [Option.bind_some, List.getLast?_nil, riseB]
  cases riseAfter none l <;> rfl

/-! ### Nodes -/
theorem eqS_l0 (b : List Str) : ∀ (suf pre : List Str) (i : Int), i = (pre.length : Int) → b.length = pre.length + suf.length → b.take pre.length = pre → slices_Equal_string_l0 b suf i = some (if pre ++ suf = b then .inr () else .inl false)
  | [], pre, i, hi, hl, ht => by
    have : pre = b := by
      rw [← ht, List.take_of_length_le]
      simp at hl; omega
    simp [slices_Equal_string_l0, this]
  | y :: suf, pre, i, hi, hl, ht => by
    simp only [List.length_cons] at hl
    obtain ⟨x, hx⟩ : ∃ x, b[pre.length]? = some x := ⟨b[pre.length], List.getElem?_eq_getElem (by omega)⟩
    rw [slices_Equal_string_l0, hi, rd_nat hx]
    simp only [Option.bind_some]
    have htk : b.take (pre.length + 1) = pre ++ [x] := by
      rw [List.take_add_one, ht, hx]
      rfl
    by_cases hxy : y = x
    · subst hxy
      simp only [beq_self_eq_true, Bool.not_true, Bool.false_eq_true, if_false]
      rw [eqS_l0 b suf (pre ++ [y]) _ (by simp) (by simp; omega) (by simpa using htk)]
      simp
    · have : ¬ pre ++ y :: suf = b := by
        intro h
        rw [← h] at hx
        simp at hx
        exact hxy hx
      simp [hxy, this]
theorem eqS_eq (a b : List Str) (h : a.length ≤ 9223372036854775807) : slices_Equal_string a b = some (decide (a = b)) := by
  unfold slices_Equal_string
  by_cases hl : a.length = b.length
  · simp only [hl, bne_self_eq_false, Bool.false_eq_true, if_false]
    rw [chk_eq (by omega), eqS_l0 b a [] 0 rfl (by simp [hl]) (by simp)]
    by_cases e : a = b <;> simp [e]
  · have h1 : ((a.length : Int) != (b.length : Int)) = true := by simp; omega
    have h2 : ¬ a = b := fun e => hl (by rw [e])
    rw [if_pos h1]
    simp [h2]
theorem alike_eq (a b : api_Node) (h : a.Marks.length ≤ 9223372036854775807) : node_alike a b = some (alikeB a b) := by
  unfold node_alike alikeB
  rw [isText_eq, isText_eq]
  simp only [Option.bind_some]
  rw [eqS_eq _ _ h]
  cases isT a <;> cases isT b <;> simp

mutual
/-- Is a node well formed? -/
def formB : api_Node → Bool
  | ⟨k, t, m, a, ks⟩ => if (k == sText) = true then (decide (t ≠ []) && Lib.validD t && riseB m && decide (a.length + ks.length = 0)) else (a.all (fun x => isValue x.Value) && isName k && decide (t = []) && decide (m = []) && riseB (a.map (·.Name)) && formBs none ks)
def formBs : Option api_Node → List api_Node → Bool
  | _, [] => true
  | last, n :: l => formB n && (match last with | none => true | some x => !alikeB x n) && formBs (some n) l
end
theorem formBs_cons (last : Option api_Node) (n : api_Node) (l : List api_Node) : formBs last (n :: l) = (formB n && (match last with | none => true | some x => !alikeB x n) && formBs (some n) l) := by cases last <;> simp only [formBs]
theorem formBs_nil (last : Option api_Node) : formBs last [] = true := by cases last <;> simp only [formBs]
theorem formB_eq (n : api_Node) : formB n = if isT n = true then (decide (n.Text ≠ []) && Lib.validD n.Text && riseB n.Marks && decide (n.Attrs.length + n.Kids.length = 0)) else (n.Attrs.all (fun x => isValue x.Value) && isName n.Kind && decide (n.Text = []) && decide (n.Marks = []) && riseB (n.Attrs.map (·.Name)) && formBs none n.Kids) := by
  cases n; simp only [formB, isT]; rfl

theorem attrsW_mem {a : api_Attr} : ∀ {l : List api_Attr}, a ∈ l → a.Name.length + a.Value.length ≤ attrsW l
  | x :: l, h => by
    simp only [attrsW]
    rcases List.mem_cons.1 h with rfl | h
    · omega
    · have := attrsW_mem h; omega
theorem attrsW_n (l : List api_Attr) : l.length ≤ attrsW l := by
  induction l with
  | nil => simp
  | cons s l ih => simp only [List.length_cons, attrsW]; omega

theorem formed_l0 : ∀ (l : List api_Attr) (i : Int) (out : List Str), (out.length + l.length) * 16 ≤ 140737488355328 → attrsW l ≤ 1099511627776 → node_formed_l0 l i out = some (if l.all (fun x => isValue x.Value) = true then .inr (out ++ l.map (·.Name)) else .inl false)
  | [], i, out, _, _ => by simp [node_formed_l0]
  | a :: l, i, out, hb, hw => by
    simp only [attrsW] at hw
    simp only [List.length_cons] at hb
    rw [node_formed_l0, value_eq _ (by omega)]
    simp only [Option.bind_some]
    rcases Bool.eq_false_or_eq_true (isValue a.Value) with hv | hv
    rotate_left
    · simp [hv]
    · simp only [hv, Bool.not_true, Bool.false_eq_true, if_false, List.all_cons, Bool.true_and]
      rw [app_eq (by simp; omega)]
      simp only [Option.bind_some]
      rw [formed_l0 l _ _ (by simp; omega) (by omega)]
      simp

theorem formed_l1 (n : api_Node) (f : api_Node → Option Bool) : ∀ (suf pre : List api_Node), n.Kids = pre ++ suf → (∀ k ∈ suf, f k = some (formB k)) → nwts n.Kids ≤ 1099511627776 → node_formed_l1 n f suf (pre.length : Int) = some (sumB (formBs pre.getLast? suf))
  | [], pre, _, _, _ => by simp [node_formed_l1, formBs_nil, sumB]
  | y :: suf, pre, hk, hf, hw => by
    have e : (pre.length : Int) + 1 = ((pre ++ [y]).length : Int) := by simp
    have ih := formed_l1 n f suf (pre ++ [y]) (by rw [hk]; simp) (fun s hs => hf s (by simp [hs])) hw
    rw [← e, List.getLast?_append, List.getLast?_singleton] at ih
    simp only [Option.some_or] at ih
    rw [node_formed_l1, hf y (by simp)]
    simp only [Option.bind_some]
    rw [formBs_cons]
    rcases Bool.eq_false_or_eq_true (formB y) with hn | hn
    rotate_left
    · simp [hn, sumB]
    · rw [hn]
      simp only [Bool.not_true, Bool.false_eq_true, if_false, Bool.true_and]
      rcases snoc_cases pre with rfl | ⟨p, x, rfl⟩
      · have g : decide ((([] : List api_Node).length : Int) > 0) = false := by decide
        simp only [g, Bool.false_eq_true, if_false]
        rw [ih]
        simp
      · have g : decide (((p ++ [x]).length : Int) > 0) = true := decide_eq_true (by simp only [List.length_append, List.length_cons, List.length_nil]; omega)
        have hl := nwts_len n.Kids
        have hr : rd n.Kids (w64 (((p ++ [x]).length : Int) - 1)) = some x := by
          rw [hk] at hl ⊢
          simp only [List.length_append, List.length_cons, List.length_nil] at hl
          rw [w64_eq (by simp; rw [hk] at hw; omega)]
          have e2 : ((p ++ [x]).length : Int) - 1 = (p.length : Int) := by simp
          rw [e2, List.append_assoc]
          exact rd_mid p (y :: suf) x
        have hx : nwt x ≤ nwts n.Kids := nwt_mem (by rw [hk]; simp)
        have hxw := nwt_eq x
        have hxm := strsW_n x.Marks
        simp only [g, if_true, hr, Option.bind_some, List.getLast?_append, List.getLast?_singleton, Option.some_or]
        rw [alike_eq x y (by omega)]
        simp only [Option.bind_some]
        rcases Bool.eq_false_or_eq_true (alikeB x y) with hc | hc
        · simp only [hc, if_true, Bool.not_true, Bool.false_and, sumB]
        · simp only [hc, Bool.false_eq_true, if_false, Bool.not_false, Bool.true_and]
          exact ih

theorem formed_k (n : api_Node) : nwt n ≤ 1099511627776 → ∀ kr, ndep n ≤ kr → node_formed_k kr n = some (formB n) := by
  induction n using api_Node.ind with
  | h n ih =>
    intro hw kr hk
    have hd := ndep_eq n
    obtain ⟨kr, rfl⟩ : ∃ j, kr = j + 1 := ⟨kr - 1, by omega⟩
    have hwt := nwt_eq n
    have hl := nwts_len n.Kids
    have hm := strsW_n n.Marks
    have ha := attrsW_n n.Attrs
    rw [node_formed_k, isText_eq, formB_eq]
    simp only [Option.bind_some]
    by_cases ht : isT n = true
    · simp only [ht, if_true]
      by_cases h1 : n.Text = []
      · simp [h1]
      · have g1 : (n.Text == []) = false := by simpa using h1
        simp only [g1, Bool.not_false, if_true]
        unfold unicode_utf8_ValidString
        rw [chk_eq (by omega)]
        simp only [Option.bind_some]
        cases hv : Lib.validD n.Text with
        | false => simp
        | true =>
          simp only [if_true]
          rw [rise_eq _ (fun s hs => by have := strsW_mem hs; omega) (by omega)]
          simp only [Option.bind_some]
          rw [w64_eq (by omega)]
          cases hr : riseB n.Marks with
          | false => simp
          | true =>
            simp only [if_true, ne_eq, h1, not_false_eq_true, decide_true, Bool.true_and, Option.some.injEq]
            rw [Bool.eq_iff_iff]
            simp only [beq_iff_eq, decide_eq_true_eq]
            omega
    · simp only [ht, Bool.false_eq_true, if_false]
      rw [chk_eq (by omega), formed_l0 _ _ _ (by simp; omega) (by omega)]
      simp only [Option.bind_some]
      cases hv : n.Attrs.all (fun x => isValue x.Value) with
      | false => simp
      | true =>
        simp only [if_true, List.nil_append, Bool.true_and]
        rw [name_eq _ (by omega)]
        simp only [Option.bind_some]
        cases h2 : isName n.Kind with
        | false => simp
        | true =>
          simp only [Bool.not_true, Bool.false_eq_true, if_false, Bool.true_and]
          by_cases h3 : n.Text = []
          · by_cases h4 : n.Marks = []
            · have g4 : decide ((n.Marks.length : Int) > 0) = false := by simp [h4]
              have g3 : (n.Text == []) = true := by simp [h3]
              simp only [g3, Bool.not_true, Bool.false_eq_true, if_false, g4]
              rw [rise_eq _ (fun s hs => by
                obtain ⟨a, ha', rfl⟩ := List.mem_map.1 hs
                have := attrsW_mem ha'; omega) (by simp; omega)]
              simp only [Option.bind_some]
              cases hr : riseB (n.Attrs.map (·.Name)) with
              | false => simp
              | true =>
                simp only [Bool.not_true, Bool.false_eq_true, if_false]
                have h0 := formed_l1 n (node_formed_k kr) n.Kids [] rfl (fun k hkk => ih k hkk (by have := nwt_mem hkk; omega) kr (by have := ndep_mem hkk; omega)) (by omega)
                have h0' : node_formed_l1 n (node_formed_k kr) n.Kids 0 = _ := h0
                rw [chk_eq (by omega), h0']
                simp only [Option.bind_some, List.getLast?_nil, h3, h4, decide_true, Bool.true_and]
                cases formBs none n.Kids <;> rfl
            · have g4 : decide ((n.Marks.length : Int) > 0) = true := by
                have := List.length_pos_iff.2 h4
                simp; omega
              have g3 : (n.Text == []) = true := by simp [h3]
              simp only [g3, Bool.not_true, Bool.false_eq_true, if_false, g4, if_true]
              simp [h4]
          · have g3 : (n.Text == []) = false := by simpa using h3
            simp only [g3, Bool.not_false, if_true]
            simp [h3]
theorem formed_eq (n : api_Node) (h : nwt n ≤ 1099511627776) : node_formed n = some (formB n) := by
  unfold node_formed
  exact lim_of (ndep n) fun kr hk => formed_k n h kr hk

mutual
def depN : api_Node → Nat
  | ⟨k, _, _, _, ks⟩ => if (k == sText) = true then 0 else depNs ks + 1
def depNs : List api_Node → Nat
  | [] => 0
  | n :: l => max (depN n) (depNs l)
end
theorem depN_eq (n : api_Node) : depN n = if isT n = true then 0 else depNs n.Kids + 1 := by cases n; simp only [depN, isT]; rfl
theorem depNs_le : ∀ (l : List api_Node), (∀ n ∈ l, depN n ≤ ndep n) → depNs l ≤ ndeps l
  | [], _ => by simp [depNs, ndeps]
  | n :: l, h => by
    have h1 := h n (by simp)
    have h2 := depNs_le l fun x hx => h x (by simp [hx])
    simp only [depNs, ndeps]; omega
theorem depN_le (n : api_Node) : depN n ≤ ndep n := by
  induction n using api_Node.ind with
  | h n ih =>
    have h1 := depNs_le n.Kids ih
    rw [depN_eq, ndep_eq]
    split <;> omega
theorem ndeps_le_nwts (l : List api_Node) (h : ∀ n ∈ l, ndep n ≤ nwt n) : ndeps l ≤ nwts l := by
  induction l with
  | nil => simp [ndeps, nwts]
  | cons k l ih =>
    have h1 := h k (by simp)
    have h2 := ih fun x hx => h x (by simp [hx])
    simp only [ndeps, nwts]; omega
theorem ndep_le (n : api_Node) : ndep n ≤ nwt n := by
  induction n using api_Node.ind with
  | h n ih =>
    have h1 := ndeps_le_nwts n.Kids ih
    have h2 := ndep_eq n
    have h3 := nwt_eq n
    omega
theorem depth_l0 (f : api_Node → Option Int) : ∀ (l : List api_Node) (i : Int) (d : Nat), (∀ k ∈ l, f k = some (depN k : Int)) → node_Depth_l0 f l i (d : Int) = some ((max d (depNs l) : Nat) : Int)
  | [], i, d, _ => by simp [node_Depth_l0, depNs]
  | n :: l, i, d, h => by
    rw [node_Depth_l0, h n (by simp)]
    simp only [Option.bind_some]
    have e : (if (depN n : Int) > (d : Int) then (depN n : Int) else (d : Int)) = ((max d (depN n) : Nat) : Int) := by split <;> omega
    rw [e, depth_l0 f l _ _ fun k hk => h k (by simp [hk])]
    simp only [depNs, Option.some.injEq]
    omega
theorem depth_k (n : api_Node) : nwt n ≤ 1099511627776 → ∀ kr, ndep n ≤ kr → node_Depth_k kr n = some (depN n : Int) := by
  induction n using api_Node.ind with
  | h n ih =>
    intro hw kr hk
    have hd := ndep_eq n
    obtain ⟨kr, rfl⟩ : ∃ j, kr = j + 1 := ⟨kr - 1, by omega⟩
    have hwt := nwt_eq n
    have hl := nwts_len n.Kids
    have hdl := depN_le n
    have hdw := ndep_le n
    rw [node_Depth_k, isText_eq]
    simp only [Option.bind_some]
    by_cases ht : isT n = true
    · simp [ht, depN_eq n]
    · have e := depN_eq n
      rw [if_neg ht] at e
      simp only [ht, Bool.false_eq_true, if_false]
      have h0 := depth_l0 (node_Depth_k kr) n.Kids 0 0 (fun k hkk => ih k hkk (by have := nwt_mem hkk; omega) kr (by have := ndep_mem hkk; omega))
      have h0' : node_Depth_l0 (node_Depth_k kr) n.Kids 0 0 = _ := h0
      rw [chk_eq (by omega), h0']
      simp only [Option.bind_some, Nat.zero_max]
      rw [w64_eq (by omega), e]
      rfl
theorem depth_eq (n : api_Node) (h : nwt n ≤ 1099511627776) : node_Depth n = some (depN n : Int) := by
  unfold node_Depth
  exact lim_of (ndep n) fun kr hk => depth_k n h kr hk

/-- What is wrong with a node. -/
def checkN (n : api_Node) : Int := if formB n = false then 2 else if 40 < depN n then 4 else if 4000 < nsize n then 5 else 0
theorem check_eq (n : api_Node) (h : nwt n ≤ 1099511627776) : node_Check n = some (checkN n) := by
  unfold node_Check checkN
  rw [formed_eq n h]
  simp only [Option.bind_some]
  cases hf : formB n with
  | false => simp
  | true =>
    simp only [Bool.not_true, Bool.false_eq_true, if_false]
    rw [depth_eq n h]
    simp only [Option.bind_some]
    by_cases hd : 40 < depN n
    · have g : decide ((depN n : Int) > 40) = true := by simp; omega
      simp [g, hd]
    · have g : decide ((depN n : Int) > 40) = false := by simp; omega
      simp only [g, Bool.false_eq_true, if_false]
      rw [size_eq n h]
      simp only [Option.bind_some, hd, if_false]
      by_cases hs : 4000 < nsize n
      · have g : decide ((nsize n : Int) > 4000) = true := by simp; omega
        simp [g, hs]
      · have g : decide ((nsize n : Int) > 4000) = false := by simp; omega
        simp only [g, Bool.false_eq_true, if_false, hs]
        simp
end Go.Proofs.YtclohbgnaopjfaaDoor
