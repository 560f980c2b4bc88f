/- A row of nodes as signs, beginnings and ends: it tells the row. -/
import Derived.Test.YtblielhogcnnkaaDoorPieceRow
namespace Go.Proofs.YtblielhogcnnkaaDoor
set_option linter.unusedSimpArgs false
set_option linter.unusedVariables false
open Go

inductive Tk where
  | sgn (c : Int) (m : List Str)
  | opn (k : Str) (a : List api_Attr)
  | cls
mutual
def tkN : api_Node → List Tk
  | ⟨k, t, m, a, ks⟩ => if (k == sText) = true then (runes t).map (fun c => Tk.sgn c m) else Tk.opn k a :: (tkL ks ++ [Tk.cls])
def tkL : List api_Node → List Tk
  | [] => []
  | n :: l => tkN n ++ tkL l
end
theorem tkN_eq (n : api_Node) : tkN n = if isT n = true then (runes n.Text).map (fun c => Tk.sgn c n.Marks) else Tk.opn n.Kind n.Attrs :: (tkL n.Kids ++ [Tk.cls]) := by cases n; simp only [tkN, isT]; rfl
def tkI1 : It → List Tk
  | .sgn c m => [.sgn c m]
  | .nod n => tkN n
def tkI (l : List It) : List Tk := l.flatMap tkI1
theorem tkI_cons (i : It) (l : List It) : tkI (i :: l) = tkI1 i ++ tkI l := rfl
theorem tkI_app (a b : List It) : tkI (a ++ b) = tkI a ++ tkI b := by simp [tkI]
theorem tkL_app (a b : List api_Node) : tkL (a ++ b) = tkL a ++ tkL b := by
  induction a with
  | nil => simp [tkL]
  | cons n a ih => simp only [List.cons_append, tkL, ih, List.append_assoc]
theorem tkI_sgns (m : List Str) (cs : List Int) : tkI (cs.map fun c => It.sgn c m) = cs.map fun c => Tk.sgn c m := by
  induction cs with
  | nil => rfl
  | cons c cs ih => rw [List.map_cons, tkI_cons, ih]; rfl
theorem tkI_itN (n : api_Node) : tkI (itN n) = tkN n := by
  rw [tkN_eq]
  unfold itN
  cases h : isT n with
  | true => simp only [if_true]; exact tkI_sgns _ _
  | false =>
    simp only [Bool.false_eq_true, if_false]
    have : tkI [It.nod n] = tkN n := by simp [tkI, tkI1]
    rw [this, tkN_eq, h]
    simp
theorem tkI_items (l : List api_Node) : tkI (items l) = tkL l := by
  induction l with
  | nil => rfl
  | cons n l ih => rw [items, tkI_app, tkI_itN, ih, tkL]
mutual
theorem tkN_len : ∀ n : api_Node, (tkN n).length = nsize n
  | ⟨k, t, m, a, ks⟩ => by
    rw [tkN_eq, nsize_eq]
    cases h : isT (⟨k, t, m, a, ks⟩ : api_Node) with
    | true => simp [runes_cnt]
    | false =>
      have := tkL_len ks
      simp; omega
theorem tkL_len : ∀ l : List api_Node, (tkL l).length = nsizes l
  | [] => rfl
  | n :: l => by
    have h1 := tkN_len n
    have h2 := tkL_len l
    simp only [tkL, nsizes, List.length_append]; omega
end
theorem tkI1_len (i : It) : (tkI1 i).length = szI1 i := by
  cases i with
  | sgn c m => rfl
  | nod n => exact tkN_len n
theorem tkI_len (l : List It) : (tkI l).length = szI l := by
  induction l with
  | nil => rfl
  | cons i l ih => rw [tkI_cons, List.length_append, ih, tkI1_len, szI]

/-- Items whose nodes are right. -/
def FI (l : List It) : Prop := ∀ n, It.nod n ∈ l → isT n = false ∧ formB n = true
theorem fi_items {l : List api_Node} (h : ∀ x ∈ l, formB x = true) : FI (items l) := by
  induction l with
  | nil => intro n hn; cases hn
  | cons y l ih =>
    intro n hn
    rcases List.mem_append.1 hn with hn | hn
    · unfold itN at hn
      cases ht : isT y with
      | true => rw [ht] at hn; simp at hn
      | false =>
        rw [ht] at hn
        simp at hn
        subst hn
        exact ⟨ht, h n (by simp)⟩
    · exact ih (fun x hx => h x (by simp [hx])) n hn
/-- What is no further sign or node. -/
def EndT : List Tk → Prop
  | [] => True
  | .cls :: _ => True
  | _ => False
theorem form_node_ext {a b : api_Node} (ha : formB a = true) (hb : formB b = true) (ta : isT a = false) (tb : isT b = false) (hk : a.Kind = b.Kind) (hat : a.Attrs = b.Attrs) (hks : a.Kids = b.Kids) : a = b := by
  rw [formB_eq, if_neg (by simp [ta])] at ha
  rw [formB_eq, if_neg (by simp [tb])] at hb
  simp only [Bool.and_eq_true, decide_eq_true_eq] at ha hb
  cases a; cases b
  simp_all
theorem tk_inj : ∀ (f : Nat) (X Y : List It) (R S : List Tk), szI X ≤ f → FI X → FI Y → EndT R → EndT S → tkI X ++ R = tkI Y ++ S → X = Y ∧ R = S
  | f, [], [], R, S, _, _, _, _, _, h => ⟨rfl, h⟩
  | f, [], j :: Y, R, S, _, _, fy, hR, _, h => by
    exfalso
    rw [tkI_cons] at h
    cases j with
    | sgn c m =>
      simp only [tkI1, tkI, List.flatMap_nil, List.nil_append, List.cons_append] at h
      rw [h] at hR
      exact hR
    | nod n =>
      have := (fy n (by simp)).1
      simp only [tkI1, tkI, List.flatMap_nil, List.nil_append] at h
      rw [tkN_eq, this] at h
      simp only [Bool.false_eq_true, if_false, List.cons_append] at h
      rw [h] at hR
      exact hR
  | f, i :: X, [], R, S, _, fx, _, _, hS, h => by
    exfalso
    rw [tkI_cons] at h
    cases i with
    | sgn c m =>
      simp only [tkI1, tkI, List.flatMap_nil, List.nil_append, List.cons_append] at h
      rw [← h] at hS
      exact hS
    | nod n =>
      have := (fx n (by simp)).1
      simp only [tkI1, tkI, List.flatMap_nil, List.nil_append] at h
      rw [tkN_eq, this] at h
      simp only [Bool.false_eq_true, if_false, List.cons_append] at h
      rw [← h] at hS
      exact hS
  | 0, i :: X, j :: Y, R, S, hf, fx, _, _, _, h => by
    exfalso
    have := szI1_pos i (by
      intro n hn
      subst hn
      exact (fx n (by simp)).1)
    simp only [szI] at hf
    omega
  | f + 1, i :: X, j :: Y, R, S, hf, fx, fy, hR, hS, h => by
    have hp := szI1_pos i (by
      intro n hn
      subst hn
      exact (fx n (by simp)).1)
    simp only [szI] at hf
    have fx' : FI X := fun n hn => fx n (by simp [hn])
    have fy' : FI Y := fun n hn => fy n (by simp [hn])
    rw [tkI_cons, tkI_cons] at h
    cases i with
    | sgn c m =>
      cases j with
      | sgn c' m' =>
        simp only [tkI1, List.cons_append, List.nil_append, List.cons.injEq, Tk.sgn.injEq] at h
        obtain ⟨⟨rfl, rfl⟩, h⟩ := h
        obtain ⟨rfl, h2⟩ := tk_inj f X Y R S (by omega) fx' fy' hR hS h
        exact ⟨rfl, h2⟩
      | nod n =>
        exfalso
        have := (fy n (by simp)).1
        simp only [tkI1] at h
        rw [tkN_eq, this] at h
        simp at h
    | nod n =>
      obtain ⟨tn, fn⟩ := fx n (by simp)
      cases j with
      | sgn c m =>
        exfalso
        simp only [tkI1] at h
        rw [tkN_eq, tn] at h
        simp at h
      | nod n' =>
        obtain ⟨tn', fn'⟩ := fy n' (by simp)
        simp only [tkI1] at h
        rw [tkN_eq, tkN_eq, tn, tn'] at h
        simp only [Bool.false_eq_true, if_false, List.cons_append, List.append_assoc, List.nil_append, List.cons.injEq, Tk.opn.injEq] at h
        obtain ⟨⟨hk, hat⟩, h⟩ := h
        have r1 := kids_row fn tn
        have r2 := kids_row fn' tn'
        have hsz : szI (items n.Kids) ≤ f := by
          rw [szI_items]
          simp only [szI1] at hf
          rw [nsize_eq, tn] at hf
          simp at hf
          omega
        rw [← tkI_items, ← tkI_items] at h
        obtain ⟨e1, e2⟩ := tk_inj f (items n.Kids) (items n'.Kids) (Tk.cls :: (tkI X ++ R)) (Tk.cls :: (tkI Y ++ S)) hsz (fi_items r1.form) (fi_items r2.form) trivial trivial h
        have e3 := frow_ext r1 r2 e1
        have e4 := form_node_ext fn fn' tn tn' hk hat e3
        subst e4
        simp only [List.cons.injEq, true_and] at e2
        obtain ⟨rfl, h2⟩ := tk_inj f X Y R S (by omega) fx' fy' hR hS e2
        exact ⟨rfl, h2⟩
/-- Right rows are told by that. -/
theorem row_ext {a b : List api_Node} (ha : FRow a) (hb : FRow b) (h : tkL a = tkL b) : a = b := by
  rw [← tkI_items, ← tkI_items] at h
  exact frow_ext ha hb (tk_inj (szI (items a)) (items a) (items b) [] [] (Nat.le_refl _) (fi_items ha.form) (fi_items hb.form) trivial trivial (by simpa using h)).1

end Go.Proofs.YtblielhogcnnkaaDoor
