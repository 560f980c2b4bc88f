/- Rows of nodes, sign by sign. -/
import Derived.Test.YtblielhogcnnkaaDoorJoins
import Derived.Test.YtblielhogcnnkaaDoorRunes
namespace Go.Proofs.YtblielhogcnnkaaDoor
set_option linter.unusedSimpArgs false
set_option linter.unusedVariables false
open Go

/-- A sign of a text, or a node. -/
inductive It where
  | sgn (c : Int) (m : List Str)
  | nod (n : api_Node)
def itN (n : api_Node) : List It := if isT n = true then (runes n.Text).map (fun c => It.sgn c n.Marks) else [.nod n]
def items : List api_Node → List It
  | [] => []
  | n :: l => itN n ++ items l
theorem items_app (a b : List api_Node) : items (a ++ b) = items a ++ items b := by
  induction a with
  | nil => rfl
  | cons n a ih => simp only [List.cons_append, items, ih, List.append_assoc]
def szI1 : It → Nat
  | .sgn _ _ => 1
  | .nod n => nsize n
def szI : List It → Nat
  | [] => 0
  | i :: l => szI1 i + szI l
theorem szI_app (a b : List It) : szI (a ++ b) = szI a + szI b := by
  induction a with
  | nil => simp [szI]
  | cons n a ih => simp only [List.cons_append, szI, ih]; omega
theorem szI_sgn (cs : List Int) (m : List Str) : szI (cs.map fun c => It.sgn c m) = cs.length := by
  induction cs with
  | nil => rfl
  | cons c cs ih => simp only [List.map_cons, szI, szI1, ih, List.length_cons]; omega
theorem szI_itN (n : api_Node) : szI (itN n) = nsize n := by
  unfold itN
  rw [nsize_eq]
  cases h : isT n with
  | true => simp only [if_true]; rw [szI_sgn, runes_cnt]
  | false => simp only [Bool.false_eq_true, if_false, szI, szI1]; rw [nsize_eq, h]; simp
theorem szI_items (l : List api_Node) : szI (items l) = nsizes l := by
  induction l with
  | nil => rfl
  | cons n l ih => simp only [items, nsizes, szI_app, szI_itN, ih]
/-- Each counts. -/
theorem szI1_pos : ∀ i : It, (∀ n, i = .nod n → isT n = false) → 1 ≤ szI1 i
  | .sgn _ _, _ => Nat.le_refl _
  | .nod n, h => by
    have := h n rfl
    simp only [szI1]
    rw [nsize_eq, this]
    simp
    omega
def NodI (i : It) : Prop := ∀ n, i = .nod n → isT n = false
theorem itN_nod (n : api_Node) : ∀ i ∈ itN n, NodI i := by
  intro i hi m hm
  unfold itN at hi
  cases h : isT n with
  | true =>
    rw [h] at hi
    simp only [if_true, List.mem_map] at hi
    obtain ⟨c, _, rfl⟩ := hi
    cases hm
  | false =>
    rw [h] at hi
    simp only [Bool.false_eq_true, if_false, List.mem_singleton] at hi
    rw [hi] at hm
    cases hm
    exact h
theorem items_nod (l : List api_Node) : ∀ i ∈ items l, NodI i := by
  induction l with
  | nil => intro i hi; cases hi
  | cons n l ih =>
    intro i hi
    rcases List.mem_append.1 hi with hi | hi
    · exact itN_nod n i hi
    · exact ih i hi
/-- Where a row is parted is told by the size ahead. -/
theorem part_uniq : ∀ (a a' b b' : List It), (∀ i ∈ a ++ b, NodI i) → a ++ b = a' ++ b' → szI a = szI a' → a = a' ∧ b = b'
  | [], [], b, b', _, h, _ => ⟨rfl, h⟩
  | [], i :: a', b, b', hn, h, hs => by
    exfalso
    have := szI1_pos i (hn i (by rw [h]; simp))
    simp only [szI] at hs
    omega
  | i :: a, [], b, b', hn, h, hs => by
    exfalso
    have := szI1_pos i (hn i (by simp))
    simp only [szI] at hs
    omega
  | i :: a, j :: a', b, b', hn, h, hs => by
    simp only [List.cons_append, List.cons.injEq] at h
    obtain ⟨rfl, h⟩ := h
    simp only [szI] at hs
    obtain ⟨h1, h2⟩ := part_uniq a a' b b' (fun x hx => hn x (by simp at hx ⊢; exact .inr hx)) h (by omega)
    exact ⟨by rw [h1], h2⟩

/-- Texts that are valid, and hold nothing else. -/
def Gd (n : api_Node) : Prop := isT n = true → Lib.validD n.Text = true ∧ n.Attrs = [] ∧ n.Kids = []
theorem Gd.plain {n : api_Node} (h : Gd n) : Plain n := fun ht => (h ht).2
theorem isT_kind {n : api_Node} (h : isT n = true) : n.Kind = sText := by simpa [isT] using h
abbrev tN (t : Str) (m : List Str) : api_Node := ⟨sText, t, m, [], []⟩
theorem gd_eta {n : api_Node} (h : Gd n) (ht : isT n = true) : n = tN n.Text n.Marks := by
  have h1 := isT_kind ht
  obtain ⟨_, h2, h3⟩ := h ht
  cases n
  simp_all
def oneI : It → api_Node
  | .sgn c m => tN (rune1 c) m
  | .nod n => n
/-- The nodes of signs and nodes, joined. -/
def canon (l : List It) : List api_Node := joinR (l.map oneI)

theorem fold_text (m : List Str) : ∀ (cs : List Int) (o : List api_Node), ((cs.map fun c => It.sgn c m).map oneI).foldl joinStep o = joinStep o (tN (runesStr cs) m)
  | [], o => by
    have : joinStep o (tN (runesStr []) m) = o := by unfold joinStep; rfl
    rw [this]
    rfl
  | c :: cs, o => by
    rw [List.map_cons, List.map_cons, List.foldl_cons, fold_text m cs, runesStr_cons]
    exact joinStep_two o (tN (rune1 c) m) (tN (runesStr cs) m) rfl rfl rfl rfl rfl
theorem fold_itN {n : api_Node} (h : Gd n) (o : List api_Node) : ((itN n).map oneI).foldl joinStep o = joinStep o n := by
  unfold itN
  cases ht : isT n with
  | true =>
    simp only [if_true]
    rw [fold_text, runes_valid (h ht).1, ← gd_eta h ht]
  | false => rfl
theorem fold_items : ∀ (l o : List api_Node), (∀ x ∈ l, Gd x) → ((items l).map oneI).foldl joinStep o = l.foldl joinStep o
  | [], o, _ => rfl
  | n :: l, o, h => by
    rw [items, List.map_append, List.foldl_append, fold_itN (h n (by simp)), fold_items l _ fun x hx => h x (by simp [hx])]
    rfl
theorem join_items {l : List api_Node} (h : ∀ x ∈ l, Gd x) : joinR l = canon (items l) := (fold_items l [] h).symm

/-- Joining keeps what there is. -/
theorem joinStep_items (o : List api_Node) (n : api_Node) (ho : ∀ x ∈ o, Gd x) (hn : Gd n) : items (joinStep o n) = items o ++ itN n ∧ ∀ x ∈ joinStep o n, Gd x := by
  have e1 : ∀ x, items [x] = itN x := fun x => by simp [items]
  have plain : items (o ++ [n]) = items o ++ itN n ∧ ∀ x ∈ o ++ [n], Gd x := by
    refine ⟨by rw [items_app, e1], fun x hx => ?_⟩
    rcases List.mem_append.1 hx with hx | hx
    · exact ho x hx
    · simp at hx; rw [hx]; exact hn
  by_cases hc : (isT n && n.Text == []) = true
  · have e : joinStep o n = o := by unfold joinStep; rw [if_pos hc]
    rw [e]
    simp only [Bool.and_eq_true, beq_iff_eq] at hc
    refine ⟨?_, ho⟩
    unfold itN
    rw [if_pos hc.1, hc.2, runes_nil]
    simp
  · rcases snoc_cases o with rfl | ⟨o, x, rfl⟩
    · rw [joinStep_nil, if_neg hc]
      simpa using plain
    · rw [joinStep_snoc, if_neg hc]
      by_cases hd : (isT n && isT x && decide (x.Marks = n.Marks)) = true
      · rw [if_pos hd]
        simp only [Bool.and_eq_true, decide_eq_true_eq] at hd
        obtain ⟨⟨h1, h2⟩, h3⟩ := hd
        have hx := ho x (by simp) h2
        have hn' := hn h1
        have ht : isT ({ n with Text := x.Text ++ n.Text } : api_Node) = true := h1
        obtain ⟨r1, r2⟩ := runes_app n.Text hx.1
        refine ⟨?_, fun y hy => ?_⟩
        · rw [items_app, items_app, e1, e1, List.append_assoc]
          congr 1
          unfold itN
          rw [if_pos ht, if_pos h1, if_pos h2]
          simp only [r1, List.map_append, h3]
        · rcases List.mem_append.1 hy with hy | hy
          · exact ho y (by simp [hy])
          · simp only [List.mem_singleton] at hy
            rw [hy]
            exact fun _ => ⟨by simp only [r2]; exact hn'.1, hn'.2⟩
      · rw [if_neg hd]
        simpa [List.append_assoc] using plain
theorem fold_keeps : ∀ (l o : List api_Node), (∀ x ∈ o, Gd x) → (∀ x ∈ l, Gd x) → items (l.foldl joinStep o) = items o ++ items l ∧ ∀ x ∈ l.foldl joinStep o, Gd x
  | [], o, ho, _ => ⟨by simp [items], ho⟩
  | n :: l, o, ho, hl => by
    obtain ⟨h1, h2⟩ := joinStep_items o n ho (hl n (by simp))
    obtain ⟨h3, h4⟩ := fold_keeps l _ h2 fun x hx => hl x (by simp [hx])
    refine ⟨?_, h4⟩
    rw [List.foldl_cons, h3, h1, List.append_assoc]
    rfl
theorem items_join {l : List api_Node} (h : ∀ x ∈ l, Gd x) : items (joinR l) = items l ∧ ∀ x ∈ joinR l, Gd x := by
  have := fold_keeps l [] (by simp) h
  exact ⟨this.1.trans (by simp [items]), this.2⟩

/-- Rows that are joined. -/
def Jnd (l : List api_Node) : Prop := AdjOk l ∧ ∀ x ∈ l, isT x = true → x.Text ≠ []
theorem adj_cons {a : api_Node} {l : List api_Node} (h : AdjOk (a :: l)) : AdjOk l := by
  cases l with
  | nil => trivial
  | cons b l => exact h.2
theorem adj_mid : ∀ (o : List api_Node) (x n : api_Node) (l : List api_Node), AdjOk (o ++ x :: n :: l) → alikeB x n = false
  | [], x, n, l, h => h.1
  | y :: o, x, n, l, h => adj_mid o x n l (adj_cons (a := y) (l := o ++ x :: n :: l) h)
theorem join_fold : ∀ (l o : List api_Node), AdjOk (o ++ l) → (∀ x ∈ l, isT x = true → x.Text ≠ []) → l.foldl joinStep o = o ++ l
  | [], o, _, _ => by simp
  | n :: l, o, h, hl => by
    have hn := hl n (by simp)
    have hc : ¬ (isT n && n.Text == []) = true := by
      simp only [Bool.and_eq_true, beq_iff_eq]
      rintro ⟨h1, h2⟩
      exact hn h1 h2
    have e : joinStep o n = o ++ [n] := by
      rcases snoc_cases o with rfl | ⟨o, x, rfl⟩
      · rw [joinStep_nil, if_neg hc]; rfl
      · rw [joinStep_snoc, if_neg hc]
        have ha := adj_mid o x n l (by simpa using h)
        unfold alikeB at ha
        have : (isT n && isT x && decide (x.Marks = n.Marks)) = false := by rw [Bool.and_comm (isT n)]; exact ha
        rw [this]
        simp
    rw [List.foldl_cons, e, join_fold l _ (by simpa using h) fun x hx => hl x (by simp [hx])]
    simp
theorem Jnd.join {l : List api_Node} (h : Jnd l) : joinR l = l := by
  have := join_fold l [] h.1 h.2
  simpa [joinR] using this
theorem Jnd.canon {l : List api_Node} (h : Jnd l) (hg : ∀ x ∈ l, Gd x) : l = canon (items l) := by
  rw [← join_items hg, h.join]
/-- Joined rows are told by their signs and nodes. -/
theorem jnd_ext {a b : List api_Node} (ha : Jnd a) (hb : Jnd b) (ga : ∀ x ∈ a, Gd x) (gb : ∀ x ∈ b, Gd x) (h : items a = items b) : a = b := by
  rw [ha.canon ga, hb.canon gb, h]
theorem adj_app_l : ∀ (a b : List api_Node), AdjOk (a ++ b) → AdjOk a
  | [], _, _ => trivial
  | [x], _, _ => trivial
  | x :: y :: a, b, h => ⟨h.1, adj_app_l (y :: a) b h.2⟩
theorem adj_app_r : ∀ (a b : List api_Node), AdjOk (a ++ b) → AdjOk b
  | [], _, h => h
  | x :: a, b, h => adj_app_r a b (adj_cons (a := x) (l := a ++ b) h)
theorem adj_snoc : ∀ (a : List api_Node) (x y : api_Node), AdjOk (a ++ [x]) → (∀ z, alikeB z y = alikeB z x) → AdjOk (a ++ [y])
  | [], _, _, _, _ => trivial
  | [z], x, y, h, e => ⟨by rw [e]; exact h.1, trivial⟩
  | z :: w :: a, x, y, h, e => ⟨h.1, adj_snoc (w :: a) x y h.2 e⟩
theorem adj_head (x y : api_Node) (l : List api_Node) (h : AdjOk (x :: l)) (e : ∀ z, alikeB y z = alikeB x z) : AdjOk (y :: l) := by
  cases l with
  | nil => trivial
  | cons z l => exact ⟨by rw [e]; exact h.1, h.2⟩

end Go.Proofs.YtblielhogcnnkaaDoor
