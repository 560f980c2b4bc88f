/- Rows of right nodes, joined, and split. -/
import Derived.Test.YtblielhogcnnkaaDoorNodeShown
import Derived.Test.YtblielhogcnnkaaDoorItems
import Derived.Test.YtblielhogcnnkaaDoorNJoin
import Derived.Test.YtblielhogcnnkaaDoorPlaceRep
namespace Go.Proofs.YtblielhogcnnkaaDoor
set_option linter.unusedSimpArgs false
set_option linter.unusedVariables false
open Go

/-- Right nodes, joined. -/
structure FRow (l : List api_Node) : Prop where
  form : ∀ x ∈ l, formB x = true
  adj : AdjOk l

theorem form_text {n : api_Node} (h : formB n = true) (ht : isT n = true) : n.Text ≠ [] ∧ Lib.validD n.Text = true ∧ riseB n.Marks = true ∧ n.Attrs = [] ∧ n.Kids = [] := by
  rw [formB_eq, if_pos ht] at h
  simp only [Bool.and_eq_true, decide_eq_true_eq] at h
  obtain ⟨⟨⟨h1, h2⟩, h3⟩, h4⟩ := h
  exact ⟨h1, h2, h3, List.eq_nil_of_length_eq_zero (by omega), List.eq_nil_of_length_eq_zero (by omega)⟩
theorem form_tN {t : Str} {m : List Str} (h1 : t ≠ []) (h2 : Lib.validD t = true) (h3 : riseB m = true) : formB (tN t m) = true := by
  have ht : isT (tN t m) = true := rfl
  rw [formB_eq, if_pos ht]
  simp [h1, h2, h3]
theorem form_gd {n : api_Node} (h : formB n = true) : Gd n := fun ht => by
  obtain ⟨_, h2, _, h4, h5⟩ := form_text h ht
  exact ⟨h2, h4, h5⟩
theorem rlen_pos {s : Str} (h : s ≠ []) : 1 ≤ rlen s := by
  rw [← runes_cnt, runes_step s h]
  simp
theorem size_pos {n : api_Node} (h : formB n = true) : 1 ≤ nsize n := by
  rw [nsize_eq]
  cases ht : isT n with
  | true => simpa using rlen_pos (form_text h ht).1
  | false => simp; omega
theorem FRow.gd {l : List api_Node} (h : FRow l) : ∀ x ∈ l, Gd x := fun x hx => form_gd (h.form x hx)
theorem FRow.jnd {l : List api_Node} (h : FRow l) : Jnd l := ⟨h.adj, fun x hx ht => (form_text (h.form x hx) ht).1⟩
theorem frow_ext {a b : List api_Node} (ha : FRow a) (hb : FRow b) (h : items a = items b) : a = b := jnd_ext ha.jnd hb.jnd ha.gd hb.gd h
theorem FRow.nil : FRow [] := ⟨by simp, trivial⟩
theorem FRow.left {a b : List api_Node} (h : FRow (a ++ b)) : FRow a := ⟨fun x hx => h.form x (by simp [hx]), adj_app_l a b h.adj⟩
theorem FRow.right {a b : List api_Node} (h : FRow (a ++ b)) : FRow b := ⟨fun x hx => h.form x (by simp [hx]), adj_app_r a b h.adj⟩

theorem joinStep_form (o : List api_Node) (n : api_Node) (h : FRow o) (hn : formB n = true) : FRow (joinStep o n) := by
  have hc : ¬ (isT n && n.Text == []) = true := by
    simp only [Bool.and_eq_true, beq_iff_eq]
    rintro ⟨h1, h2⟩
    exact (form_text hn h1).1 h2
  rcases snoc_cases o with rfl | ⟨o, x, rfl⟩
  · rw [joinStep_nil, if_neg hc]
    exact ⟨fun y hy => by simp at hy; rw [hy]; exact hn, trivial⟩
  · rw [joinStep_snoc, if_neg hc]
    have hx := h.form x (by simp)
    split
    · rename_i hd
      simp only [Bool.and_eq_true, decide_eq_true_eq] at hd
      obtain ⟨⟨h1, h2⟩, h3⟩ := hd
      obtain ⟨a1, a2, a3, a4, a5⟩ := form_text hx h2
      obtain ⟨b1, b2, b3, b4, b5⟩ := form_text hn h1
      have e : ({ n with Text := x.Text ++ n.Text } : api_Node) = tN (x.Text ++ n.Text) n.Marks := by
        have := isT_kind h1
        cases n
        simp_all
      have ef : formB ({ n with Text := x.Text ++ n.Text } : api_Node) = true := by
        rw [e]
        refine form_tN (by simp [a1]) ?_ b3
        rw [(runes_app n.Text a2).2]
        exact b2
      refine ⟨fun y hy => ?_, ?_⟩
      · rcases List.mem_append.1 hy with hy | hy
        · exact h.form y (by simp [hy])
        · simp only [List.mem_singleton] at hy; rw [hy]; exact ef
      · refine adj_snoc o x _ h.adj fun z => ?_
        unfold alikeB
        have e1 : isT ({ n with Text := x.Text ++ n.Text } : api_Node) = true := h1
        rw [e1, h2]
        simp only [h3]
    · rename_i hd
      refine ⟨fun y hy => ?_, ?_⟩
      · have hy' : y ∈ o ++ [x] ∨ y = n := by simpa [or_assoc] using hy
        rcases hy' with hy | rfl
        · exact h.form y hy
        · exact hn
      · have ha : alikeB x n = false := by
          unfold alikeB
          rw [Bool.and_comm (isT x)]
          simpa using hd
        have := adj_app o x n h.adj ha
        simpa using this
theorem fold_form : ∀ (l o : List api_Node), FRow o → (∀ x ∈ l, formB x = true) → FRow (l.foldl joinStep o)
  | [], _, h, _ => h
  | n :: l, o, h, hl => fold_form l _ (joinStep_form o n h (hl n (by simp))) fun x hx => hl x (by simp [hx])
theorem joinR_row {l : List api_Node} (h : ∀ x ∈ l, formB x = true) : FRow (joinR l) ∧ items (joinR l) = items l :=
  ⟨fold_form l [] .nil h, (items_join fun x hx => form_gd (h x hx)).1⟩
theorem FRow.join {l : List api_Node} (h : FRow l) : joinR l = l := h.jnd.join

theorem bs_row : ∀ (l : List api_Node) (last : Option api_Node), formBs last l = true → FRow l ∧ ∀ x y, last = some x → l.head? = some y → alikeB x y = false
  | [], last, _ => ⟨.nil, by simp⟩
  | y :: l, last, h => by
    rw [formBs_cons, Bool.and_eq_true, Bool.and_eq_true] at h
    obtain ⟨⟨h1, h2⟩, h3⟩ := h
    obtain ⟨h4, h5⟩ := bs_row l (some y) h3
    refine ⟨⟨fun x hx => ?_, ?_⟩, ?_⟩
    · rcases List.mem_cons.1 hx with rfl | hx
      · exact h1
      · exact h4.form x hx
    · cases l with
      | nil => trivial
      | cons z l => exact ⟨h5 y z rfl rfl, h4.adj⟩
    · rintro x y' rfl hy
      cases hy
      simpa using h2
theorem row_bs {l : List api_Node} (h : FRow l) : formBs none l = true := adj_bs l none h.form h.adj fun _ _ hx => by cases hx
theorem kids_row {n : api_Node} (h : formB n = true) (ht : isT n = false) : FRow n.Kids := by
  rw [formB_eq, if_neg (by simp [ht])] at h
  simp only [Bool.and_eq_true] at h
  exact (bs_row _ _ h.2).1
theorem form_kids {n : api_Node} (h : formB n = true) (ht : isT n = false) {l : List api_Node} (hl : FRow l) : formB ({ n with Kids := l } : api_Node) = true := by
  have ht' : isT ({ n with Kids := l } : api_Node) = false := ht
  rw [formB_eq, if_neg (by simp [ht])] at h
  rw [formB_eq, if_neg (by simp [ht'])]
  simp only [Bool.and_eq_true] at h ⊢
  exact ⟨h.1, row_bs hl⟩
theorem mn_row {l : List api_Node} (h : ∀ x ∈ l, MN x) (ha : AdjOk l) : FRow l := ⟨fun x hx => form_mn (h x hx), ha⟩

/-! ### Splitting -/
theorem split_l0 : ∀ (l : List api_Node) (i : Int) (at' : Nat), nwts l ≤ 1099511627776 → at' ≤ 1099511627776 → ∃ (k r : Nat), piece_Split_l0 l i (at' : Int) = some ((r : Int), i + (k : Int)) ∧ k ≤ l.length ∧ nsizes (l.take k) + r = at' ∧ ∀ y, l[k]? = some y → r < nsize y
  | [], i, at', _, _ => ⟨0, at', by simp [piece_Split_l0], by simp, by simp [nsizes], by simp⟩
  | y :: l, i, at', hw, ha => by
    simp only [nwts] at hw
    rw [piece_Split_l0, size_eq y (by omega)]
    simp only [Option.bind_some]
    by_cases hc : nsize y ≤ at'
    · have g : decide ((at' : Int) ≥ (nsize y : Int)) = true := by simp; omega
      have e : w64 ((at' : Int) - (nsize y : Int)) = ((at' - nsize y : Nat) : Int) := by rw [w64_eq (by omega)]; omega
      simp only [g, if_true, e]
      obtain ⟨k, r, h1, h2, h3, h4⟩ := split_l0 l (i + 1) (at' - nsize y) (by omega) (by omega)
      refine ⟨k + 1, r, ?_, by simpa using h2, ?_, ?_⟩
      · rw [h1]; congr 2; omega
      · simp only [List.take_succ_cons, nsizes]; omega
      · intro z hz; exact h4 z (by simpa using hz)
    · have g : decide ((at' : Int) ≥ (nsize y : Int)) = false := by simp; omega
      simp only [g, Bool.false_eq_true, if_false]
      refine ⟨0, at', by simp, by simp, by simp [nsizes], ?_⟩
      intro z hz
      simp at hz
      rw [← hz]
      omega

theorem no_part : ∀ (P : List It) (i : It) (Q X Y : List It), P ++ i :: Q = X ++ Y → szI P < szI X → szI P + szI1 i ≤ szI X
  | [], i, Q, [], Y, _, hs => by simp [szI] at hs
  | [], i, Q, j :: X, Y, h, _ => by
    simp only [List.nil_append, List.cons_append, List.cons.injEq] at h
    simp only [szI, h.1]; omega
  | p :: P, i, Q, [], Y, _, hs => by simp [szI] at hs
  | p :: P, i, Q, j :: X, Y, h, hs => by
    simp only [List.cons_append, List.cons.injEq] at h
    obtain ⟨rfl, h⟩ := h
    simp only [szI] at hs ⊢
    have := no_part P i Q X Y h (by omega)
    omega

theorem clone_eq (l : List api_Node) (h : nwts l ≤ 1099511627776) : slices_Clone_api_Node l = some l := by
  have := nwts_len l
  unfold slices_Clone_api_Node
  rw [app_eq (by simp; omega)]
  simp
theorem wt_take (l : List api_Node) (k : Nat) : nwts (l.take k) + nwts (l.drop k) = nwts l := by
  have := nwts_app (l.take k) (l.drop k)
  rw [List.take_append_drop] at this
  exact this.symm
theorem size_take (l : List api_Node) (k : Nat) : nsizes (l.take k) + nsizes (l.drop k) = nsizes l := by
  have := nsizes_app (l.take k) (l.drop k)
  rw [List.take_append_drop] at this
  exact this.symm

/-- What a split tells. -/
theorem split_eq {l : List api_Node} (h : FRow l) (hw : nwts l ≤ 549755813888) (at' : Nat) (ha : at' ≤ nsizes l) :
    (∃ a b, piece_Split l (at' : Int) = some (a, b, 0) ∧ FRow a ∧ FRow b ∧ items l = items a ++ items b ∧ szI (items a) = at' ∧ nwts a ≤ nwts l ∧ nwts b ≤ nwts l ∧ ndeps a ≤ ndeps l ∧ ndeps b ≤ ndeps l) ∨
    (piece_Split l (at' : Int) = some ([], [], 10) ∧ ∀ X Y, items l = X ++ Y → szI X ≠ at') := by
  have hsz := nsizes_le' l
  have hl := nwts_len l
  obtain ⟨k, r, h1, h2, h3, h4⟩ := split_l0 l 0 at' (by omega) (by omega)
  have g1 : decide ((at' : Int) < 0) = false := by simp
  have g2 : decide ((at' : Int) > (nsizes l : Int)) = false := by simp; omega
  have s1 : sl l 0 (k : Int) = some (l.take k) := by
    have := sl_nat (l := l) (a := 0) (b := k) (by omega) h2
    simpa using this
  have s2 : sl l (k : Int) (l.length : Int) = some (l.drop k) := by
    have := sl_nat (l := l) (a := k) (b := l.length) h2 (Nat.le_refl _)
    simpa using this
  have wtd := wt_take l k
  have std := size_take l k
  have rowt : FRow (l.take k ++ l.drop k) := by rw [List.take_append_drop]; exact h
  have itd : items l = items (l.take k) ++ items (l.drop k) := by rw [← items_app, List.take_append_drop]
  have dtd : ndeps l = max (ndeps (l.take k)) (ndeps (l.drop k)) := by rw [← ndeps_app, List.take_append_drop]
  unfold piece_Split
  rw [g1]
  simp only [Bool.false_eq_true, if_false]
  rw [total_eq l (by omega)]
  simp only [Option.bind_some, g2, Bool.false_eq_true, if_false]
  rw [chk_eq (by omega), h1]
  simp only [Option.bind_some, Int.zero_add]
  rw [s1, s2]
  simp only [Option.bind_some]
  rw [clone_eq _ (by omega), clone_eq _ (by omega)]
  simp only [Option.bind_some]
  by_cases hr : r = 0
  · subst hr
    refine .inl ⟨l.take k, l.drop k, by simp, rowt.left, rowt.right, itd, ?_, by omega, by omega, by omega, by omega⟩
    rw [szI_items]; omega
  · have g3 : ((r : Int) == 0) = false := by simp; omega
    simp only [g3, Bool.false_eq_true, if_false]
    rcases Nat.lt_or_ge k l.length with hk | hk
    · have hy : l[k]? = some l[k] := List.getElem?_eq_getElem hk
      generalize l[k] = y at hy
      have hym : y ∈ l := List.mem_of_getElem? hy
      have hyf := h.form y hym
      have hry := h4 y hy
      have hdrop : l.drop k = y :: l.drop (k + 1) := by
        have := List.drop_eq_getElem_cons hk
        rw [this]
        rw [List.getElem?_eq_getElem hk] at hy
        cases hy
        rfl
      rw [rd_nat hy]
      simp only [Option.bind_some]
      cases ht : isT y with
      | false =>
        have g4 : (!(y.Kind == ([116, 101, 120, 116] : Str))) = true := by
          have : (y.Kind == ([116, 101, 120, 116] : Str)) = isT y := rfl
          rw [this, ht]; rfl
        refine .inr ⟨by simp only [g4, if_true], fun X Y hXY hX => ?_⟩
        have e : items l = items (l.take k) ++ It.nod y :: items (l.drop (k + 1)) := by
          rw [itd, hdrop, items, itN, ht]
          rfl
        have := no_part (items (l.take k)) (It.nod y) (items (l.drop (k + 1))) X Y (by rw [← e, hXY]) (by rw [szI_items]; omega)
        rw [szI_items] at this
        simp only [szI1] at this
        omega
      | true =>
        have g4 : (!(y.Kind == ([116, 101, 120, 116] : Str))) = false := by
          have : (y.Kind == ([116, 101, 120, 116] : Str)) = isT y := rfl
          rw [this, ht]; rfl
        simp only [g4, Bool.false_eq_true, if_false]
        obtain ⟨t1, t2, t3, t4, t5⟩ := form_text hyf ht
        have ek := isT_kind ht
        have hrl : r < (runes y.Text).length := by
          rw [runes_cnt]
          rw [nsize_eq, if_pos ht] at hry
          exact hry
        have q1 : sl (runes y.Text) 0 (r : Int) = some ((runes y.Text).take r) := by
          have := sl_nat (l := runes y.Text) (a := 0) (b := r) (by omega) (by omega)
          simpa using this
        have q2 : sl (runes y.Text) (r : Int) ((runes y.Text).length : Int) = some ((runes y.Text).drop r) := by
          have := sl_nat (l := runes y.Text) (a := r) (b := (runes y.Text).length) (by omega) (Nat.le_refl _)
          simpa using this
        have q3 : rd (l.drop k) 0 = some y := by
          rw [hdrop]; exact rd_nat (i := 0) rfl
        have q4 : wr (l.drop k) 0 ({ y with Text := runesStr ((runes y.Text).drop r) } : api_Node) = some (({ y with Text := runesStr ((runes y.Text).drop r) } : api_Node) :: l.drop (k + 1)) := by
          rw [hdrop]
          exact wr_nat (l := y :: l.drop (k + 1)) (i := 0) (by simp) _
        rw [q1, q2, q3]
        simp only [Option.bind_some]
        rw [q4]
        simp only [Option.bind_some]
        have hvr := runes_vr t2
        obtain ⟨a1, a2⟩ := runes_of_str (l := (runes y.Text).take r) fun c hc => hvr c (List.mem_of_mem_take hc)
        obtain ⟨b1, b2⟩ := runes_of_str (l := (runes y.Text).drop r) fun c hc => hvr c (List.mem_of_mem_drop hc)
        have hcat : runesStr ((runes y.Text).take r) ++ runesStr ((runes y.Text).drop r) = y.Text := by
          rw [← runesStr_app, List.take_append_drop, runes_valid t2]
        have hne1 : runesStr ((runes y.Text).take r) ≠ [] := by
          intro hh
          rw [hh, runes_nil] at a1
          have := congrArg List.length a1
          simp at this
          omega
        have hne2 : runesStr ((runes y.Text).drop r) ≠ [] := by
          intro hh
          rw [hh, runes_nil] at b1
          have := congrArg List.length b1
          simp at this
          omega
        have e1 : ({ y with Text := runesStr ((runes y.Text).take r) } : api_Node) = tN (runesStr ((runes y.Text).take r)) y.Marks := by cases y; simp_all
        have e2 : ({ y with Text := runesStr ((runes y.Text).drop r) } : api_Node) = tN (runesStr ((runes y.Text).drop r)) y.Marks := by cases y; simp_all
        have ey : y = tN y.Text y.Marks := gd_eta (form_gd hyf) ht
        rw [e1, e2]
        rw [app_eq (by simp; omega)]
        simp only [Option.bind_some]
        have hlen := congrArg List.length hcat
        rw [List.length_append] at hlen
        have wy : nwt y = 2 + 4 + y.Text.length + strsW y.Marks := by
          rw [nwt_eq, ek, t4, t5]; simp [attrsW, nwts]
        have w1 : nwt (tN (runesStr ((runes y.Text).take r)) y.Marks) = 2 + 4 + (runesStr ((runes y.Text).take r)).length + strsW y.Marks := by
          rw [nwt_eq]; simp [attrsW, nwts]
        have w2 : nwt (tN (runesStr ((runes y.Text).drop r)) y.Marks) = 2 + 4 + (runesStr ((runes y.Text).drop r)).length + strsW y.Marks := by
          rw [nwt_eq]; simp [attrsW, nwts]
        have d1 : ∀ t m, ndep (tN t m) = 1 := fun t m => by rw [ndep_eq]; simp [ndeps]
        have dy : ndep y = 1 := by rw [ey]; exact d1 _ _
        have f1 := form_tN hne1 a2 t3
        have f2 := form_tN hne2 b2 t3
        have alk : ∀ t z, alikeB z (tN t y.Marks) = alikeB z y := fun t z => by
          unfold alikeB
          have : isT (tN t y.Marks) = true := rfl
          rw [this, ht]
        have alk' : ∀ t z, alikeB (tN t y.Marks) z = alikeB y z := fun t z => by
          unfold alikeB
          have : isT (tN t y.Marks) = true := rfl
          rw [this, ht]
        rw [hdrop] at wtd itd dtd rowt
        simp only [nwts, ndeps, items] at wtd itd dtd
        refine .inl ⟨_, _, rfl, ⟨?_, ?_⟩, ⟨?_, ?_⟩, ?_, ?_, ?_, ?_, ?_, ?_⟩
        · intro x hx
          rcases List.mem_append.1 hx with hx | hx
          · exact rowt.left.form x hx
          · simp only [List.mem_singleton] at hx; rw [hx]; exact f1
        · have : AdjOk (l.take k ++ [y]) := adj_app_l _ (l.drop (k + 1)) (by simpa using rowt.adj)
          exact adj_snoc _ _ _ this fun z => alk _ z
        · intro x hx
          rcases List.mem_cons.1 hx with rfl | hx
          · exact f2
          · exact rowt.right.form x (by simp [hx])
        · exact adj_head y _ _ rowt.right.adj fun z => alk' _ z
        · rw [itd, items_app, items, items, items]
          have i1 : itN y = (runes y.Text).map fun c => It.sgn c y.Marks := by rw [itN, if_pos ht]
          have i2 : itN (tN (runesStr ((runes y.Text).take r)) y.Marks) = ((runes y.Text).take r).map fun c => It.sgn c y.Marks := by
            have : isT (tN (runesStr ((runes y.Text).take r)) y.Marks) = true := rfl
            rw [itN, if_pos this]
            simp only [a1]
          have i3 : itN (tN (runesStr ((runes y.Text).drop r)) y.Marks) = ((runes y.Text).drop r).map fun c => It.sgn c y.Marks := by
            have : isT (tN (runesStr ((runes y.Text).drop r)) y.Marks) = true := rfl
            rw [itN, if_pos this]
            simp only [b1]
          rw [i1, i2, i3]
          simp only [List.append_nil, List.append_assoc]
          rw [← List.append_assoc (List.map _ (List.take r _)), ← List.map_append, List.take_append_drop]
        · rw [szI_items, nsizes_app]
          simp only [nsizes]
          have : isT (tN (runesStr ((runes y.Text).take r)) y.Marks) = true := rfl
          rw [nsize_eq, if_pos this, ← runes_cnt]
          simp only [a1, List.length_take]
          omega
        · rw [nwts_app]; simp only [nwts]; omega
        · simp only [nwts]; omega
        · rw [ndeps_app]; simp only [ndeps, d1]; omega
        · simp only [ndeps, d1]; omega
    · exfalso
      have : l.take k = l := List.take_of_length_le hk
      rw [this] at h3
      omega

/-- Where the signs and nodes are parted, the nodes can be split. -/
theorem split_at {l : List api_Node} (h : FRow l) (hw : nwts l ≤ 549755813888) {X Y : List It} (e : items l = X ++ Y) :
    ∃ a b, piece_Split l (szI X : Int) = some (a, b, 0) ∧ FRow a ∧ FRow b ∧ items a = X ∧ items b = Y ∧ nwts a ≤ nwts l ∧ nwts b ≤ nwts l ∧ ndeps a ≤ ndeps l ∧ ndeps b ≤ ndeps l := by
  have hs : szI X ≤ nsizes l := by
    rw [← szI_items, e, szI_app]; omega
  rcases split_eq h hw (szI X) hs with ⟨a, b, h1, h2, h3, h4, h5, h6⟩ | ⟨_, h2⟩
  · have hn : ∀ i ∈ X ++ Y, NodI i := by rw [← e]; exact items_nod l
    obtain ⟨e1, e2⟩ := part_uniq X (items a) Y (items b) hn (by rw [← e, h4]) h5.symm
    exact ⟨a, b, h1, h2, h3, e1.symm, e2.symm, h6⟩
  · exact (h2 X Y e rfl).elim
theorem split_out {l : List api_Node} (hw : nwts l ≤ 549755813888) (at' : Int) (h : at' < 0 ∨ nsizes l < at') : piece_Split l at' = some ([], [], 3) := by
  unfold piece_Split
  by_cases h0 : at' < 0
  · have g : decide (at' < 0) = true := by simpa using h0
    rw [if_pos g]
  · have g : decide (at' < 0) = false := by simpa using h0
    have g2 : decide (at' > (nsizes l : Int)) = true := by simp; omega
    simp only [g, Bool.false_eq_true, if_false]
    rw [total_eq l (by omega)]
    simp only [Option.bind_some, g2, if_true]

end Go.Proofs.YtblielhogcnnkaaDoor
