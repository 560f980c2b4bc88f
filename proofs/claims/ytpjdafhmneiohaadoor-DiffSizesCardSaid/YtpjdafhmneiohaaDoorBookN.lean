/- Documents of the book: right nodes whose texts have the marks b and i alone. -/
import Derived.Test.YtpjdafhmneiohaaDoorNodeAdj
import Derived.Test.YtpjdafhmneiohaaDoorForm
import Derived.Test.YtpjdafhmneiohaaDoorRunes
namespace Go.Proofs.YtpjdafhmneiohaaDoor
set_option linter.unusedSimpArgs false
set_option linter.unusedVariables false
open Go

def BMarks (m : List Str) : Prop := m = [] ∨ m = [[98]] ∨ m = [[105]] ∨ m = [[98], [105]]
/-- A node of the book. -/
inductive BN : api_Node → Prop
  | text (t : Str) (m : List Str) (h1 : t ≠ []) (h2 : Lib.validD t = true) (hm : BMarks m) : BN ⟨sText, t, m, [], []⟩
  | node (k : Str) (a : List api_Attr) (ks : List api_Node) (hk : isName k = true) (h1 : a.all (fun x => isValue x.Value) = true) (h2 : riseB (a.map (·.Name)) = true) (hs : ∀ x ∈ ks, BN x) (hj : AdjOk ks) : BN ⟨k, [], [], a, ks⟩

theorem name_nt {k : Str} (h : isName k = true) : (k == sText) = false := by
  unfold isName at h
  simp only [Bool.and_eq_true, decide_eq_true_eq] at h
  simpa using h.2
theorem bmarks_rise {m : List Str} (h : BMarks m) : riseB m = true := by
  rcases h with rfl | rfl | rfl | rfl <;> decide +kernel
theorem bmarks_w {m : List Str} (h : BMarks m) : strsW m ≤ 4 := by
  rcases h with rfl | rfl | rfl | rfl <;> simp [strsW]
theorem adj_bs' : ∀ (l : List api_Node) (last : Option api_Node), (∀ x ∈ l, formB x = true) → AdjOk l → (∀ x y, last = some x → l.head? = some y → alikeB x y = false) → formBs last l = true
  | [], last, _, _, _ => formBs_nil last
  | y :: l, last, hf, hj, hl => by
    rw [formBs_cons, hf y (by simp)]
    have h2 : formBs (some y) l = true := by
      refine adj_bs' l (some y) (fun x hx => hf x (by simp [hx])) ?_ ?_
      · cases l with
        | nil => trivial
        | cons z l => exact hj.2
      · intro x z hx hz
        cases hx
        cases l with
        | nil => cases hz
        | cons z' l => cases hz; exact hj.1
    rw [h2]
    cases last with
    | none => rfl
    | some x => simp [hl x y rfl rfl]
theorem form_bn {n : api_Node} (h : BN n) : formB n = true := by
  induction h with
  | text t m h1 h2 hm =>
    rw [formB_eq]
    have h3 := bmarks_rise hm
    simp [isT, h1, h2, h3]
  | node k a ks hk h1 h2 hs hj ih =>
    rw [formB_eq]
    have hkk : isT (⟨k, [], [], a, ks⟩ : api_Node) = false := name_nt hk
    have h3 := adj_bs' ks none ih hj (fun x y hx => by cases hx)
    simp only [hkk, Bool.false_eq_true, if_false, h1, hk, h2, h3]
    decide
theorem bn_text {n : api_Node} (h : BN n) (ht : isT n = true) : n.Text ≠ [] ∧ Lib.validD n.Text = true ∧ BMarks n.Marks ∧ n.Attrs = [] ∧ n.Kids = [] := by
  cases h with
  | text t m h1 h2 hm => exact ⟨h1, h2, hm, rfl, rfl⟩
  | node k a ks hk h1 h2 hs hj => rw [show isT (⟨k, [], [], a, ks⟩ : api_Node) = false from name_nt hk] at ht; cases ht
theorem bn_kids {n : api_Node} (h : BN n) : (∀ x ∈ n.Kids, BN x) ∧ AdjOk n.Kids := by
  cases h with
  | text t m h1 h2 hm => exact ⟨by simp, trivial⟩
  | node k a ks hk h1 h2 hs hj => exact ⟨hs, hj⟩

theorem badj_app : ∀ (o : List api_Node) (x n : api_Node), AdjOk (o ++ [x]) → alikeB x n = false → AdjOk (o ++ [x, n])
  | [], x, n, _, h => ⟨h, trivial⟩
  | [a], x, n, h1, h => ⟨h1.1, h, trivial⟩
  | a :: b :: o, x, n, h1, h => ⟨h1.1, badj_app (b :: o) x n h1.2 h⟩
theorem badj_swap : ∀ (o : List api_Node) (x n : api_Node), AdjOk (o ++ [x]) → (∀ a, alikeB a x = alikeB a n) → AdjOk (o ++ [n])
  | [], x, n, _, _ => trivial
  | [a], x, n, h1, h => ⟨by rw [← h]; exact h1.1, trivial⟩
  | a :: b :: o, x, n, h1, h => ⟨h1.1, badj_swap (b :: o) x n h1.2 h⟩
theorem adj_nt : ∀ (l : List api_Node), (∀ x ∈ l, isT x = false) → AdjOk l
  | [], _ => trivial
  | [a], _ => trivial
  | a :: b :: l, h => ⟨by unfold alikeB; rw [h a (by simp)]; rfl, adj_nt (b :: l) fun x hx => h x (by simp [hx])⟩

theorem bjoinStep (o : List api_Node) (n : api_Node) (h : ∀ x ∈ o, BN x) (hj : AdjOk o) (hn : BN n) : (∀ x ∈ joinStep o n, BN x) ∧ AdjOk (joinStep o n) := by
  rcases snoc_cases o with rfl | ⟨o, x, rfl⟩
  · rw [joinStep_nil]
    split
    · exact ⟨by simp, trivial⟩
    · exact ⟨by simpa using hn, trivial⟩
  · rw [joinStep_snoc]
    split
    · exact ⟨h, hj⟩
    · split
      · rename_i hc
        simp only [Bool.and_eq_true, decide_eq_true_eq] at hc
        obtain ⟨⟨h1, h2⟩, h3⟩ := hc
        have hx := h x (by simp)
        cases hn with
        | text t m ht hv hm =>
          cases hx with
          | text t' m' ht' hv' hm' =>
            simp only at h3
            subst h3
            refine ⟨fun y hy => ?_, badj_swap o _ _ hj fun a => rfl⟩
            rcases List.mem_append.1 hy with hy | hy
            · exact h y (by simp [hy])
            · simp at hy
              subst hy
              exact .text _ _ (by simp [ht']) (by rw [(runes_app t hv').2]; exact hv) hm
          | node k a ks hk ha hb hs hj' => rw [show isT (⟨k, [], [], a, ks⟩ : api_Node) = false from name_nt hk] at h2; cases h2
        | node k a ks hk ha hb hs hj' => rw [show isT (⟨k, [], [], a, ks⟩ : api_Node) = false from name_nt hk] at h1; cases h1
      · rename_i hc
        refine ⟨fun y hy => ?_, badj_app o x n hj ?_⟩
        · rcases List.mem_append.1 hy with hy | hy
          · exact h y (by simp [hy])
          · simp at hy
            rcases hy with rfl | rfl
            · exact h y (by simp)
            · exact hn
        · have hc' : (isT n && isT x && decide (x.Marks = n.Marks)) = false := by simpa using hc
          unfold alikeB
          rw [Bool.and_comm (isT x)]
          exact hc'
theorem bfold : ∀ (l o : List api_Node), (∀ x ∈ o, BN x) → AdjOk o → (∀ x ∈ l, BN x) → (∀ x ∈ l.foldl joinStep o, BN x) ∧ AdjOk (l.foldl joinStep o)
  | [], o, h, hj, _ => ⟨h, hj⟩
  | n :: l, o, h, hj, hl => by
    obtain ⟨h1, h2⟩ := bjoinStep o n h hj (hl n (by simp))
    exact bfold l _ h1 h2 fun x hx => hl x (by simp [hx])
theorem bjoin (l : List api_Node) (h : ∀ x ∈ l, BN x) : (∀ x ∈ joinR l, BN x) ∧ AdjOk (joinR l) := bfold l [] (by simp) trivial h

/-! ### Depth -/
theorem depNs_app (a b : List api_Node) : depNs (a ++ b) = max (depNs a) (depNs b) := by
  induction a with
  | nil => simp [depNs]
  | cons n a ih => simp only [List.cons_append, depNs, ih]; omega
theorem joinStep_depN (o : List api_Node) (n : api_Node) : depNs (joinStep o n) ≤ max (depNs o) (depN n) := by
  rcases snoc_cases o with rfl | ⟨o, x, rfl⟩
  · rw [joinStep_nil]
    split <;> simp [depNs]
  · rw [joinStep_snoc]
    split
    · omega
    · split
      · rename_i hc
        simp only [Bool.and_eq_true] at hc
        have h1 : depN ({ n with Text := x.Text ++ n.Text } : api_Node) = 0 := by rw [depN_eq, if_pos (show isT ({ n with Text := x.Text ++ n.Text } : api_Node) = true from hc.1.1)]
        simp only [depNs_app, depNs, h1]
        omega
      · simp only [depNs_app, depNs]
        omega
theorem fold_depN : ∀ (l o : List api_Node), depNs (l.foldl joinStep o) ≤ max (depNs o) (depNs l)
  | [], o => by simp [depNs]
  | n :: l, o => by
    have h1 := joinStep_depN o n
    have h2 := fold_depN l (joinStep o n)
    simp only [List.foldl_cons, depNs]
    omega
theorem joinR_depN (l : List api_Node) : depNs (joinR l) ≤ depNs l := by
  have := fold_depN l []
  simpa [joinR, depNs] using this

/-- A document of the book: its kids. -/
structure Book (ks : List api_Node) : Prop where
  bn : ∀ x ∈ ks, BN x
  nt : ∀ x ∈ ks, isT x = false
  wt : nwts ks ≤ 2400
  dep : depNs ks ≤ 31
abbrev bDoc : Str := [100, 111, 99]
theorem book_bn {ks : List api_Node} (h : Book ks) : BN ⟨bDoc, [], [], [], ks⟩ := .node _ _ _ (by decide +kernel) rfl (by decide +kernel) h.bn (adj_nt ks h.nt)
theorem book_right {ks : List api_Node} (h : Book ks) : checkN ⟨bDoc, [], [], [], ks⟩ = 0 := by
  have hf := form_bn (book_bn h)
  have hs := nsizes_le' ks
  have hw := h.wt
  have hdp := h.dep
  have e1 : depN ⟨bDoc, [], [], [], ks⟩ = depNs ks + 1 := by rw [depN_eq]; rfl
  have e2 : nsize ⟨bDoc, [], [], [], ks⟩ = 2 + nsizes ks := by rw [nsize_eq]; rfl
  unfold checkN
  rw [hf, e1, e2, if_neg (by simp), if_neg (by omega), if_neg (by omega)]

end Go.Proofs.YtpjdafhmneiohaaDoor
