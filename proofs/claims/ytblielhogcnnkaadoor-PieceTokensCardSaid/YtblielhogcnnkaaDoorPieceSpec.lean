/- Pieces, plainly: where two positions are, what is cut out, what is put in. -/
import Derived.Test.YtblielhogcnnkaaDoorToks
import Derived.Test.YtblielhogcnnkaaDoorNRight
namespace Go.Proofs.YtblielhogcnnkaaDoor
set_option linter.unusedSimpArgs false
set_option linter.unusedVariables false
open Go

/-! ### One spot for a position -/
def IdxOk (l : List api_Node) (i r : Nat) : Prop := i ≤ l.length ∧ (∀ k, l[i]? = some k → r < nsize k) ∧ (i = l.length → r = 0)
theorem idx_uniq : ∀ (l : List api_Node) (i r j s : Nat), IdxOk l i r → IdxOk l j s → nsizes (l.take i) + r = nsizes (l.take j) + s → i = j ∧ r = s
  | [], i, r, j, s, h1, h2, h => by
    obtain ⟨a1, _, a3⟩ := h1
    obtain ⟨b1, _, b3⟩ := h2
    simp only [List.length_nil, Nat.le_zero] at a1 b1
    subst a1; subst b1
    simp only [List.length_nil, forall_const] at a3 b3
    omega
  | k :: l, 0, r, 0, s, h1, h2, h => by
    simp only [List.take_zero, nsizes] at h
    omega
  | k :: l, 0, r, j + 1, s, h1, h2, h => by
    have := h1.2.1 k rfl
    simp only [List.take_zero, List.take_succ_cons, nsizes] at h
    omega
  | k :: l, i + 1, r, 0, s, h1, h2, h => by
    have := h2.2.1 k rfl
    simp only [List.take_zero, List.take_succ_cons, nsizes] at h
    omega
  | k :: l, i + 1, r, j + 1, s, h1, h2, h => by
    have g : ∀ i r, IdxOk (k :: l) (i + 1) r → IdxOk l i r := fun i r h => ⟨by simpa using h.1, fun y hy => h.2.1 y (by simpa using hy), fun e => h.2.2 (by simp [e])⟩
    simp only [List.take_succ_cons, nsizes] at h
    obtain ⟨e1, e2⟩ := idx_uniq l i r j s (g _ _ h1) (g _ _ h2) (by omega)
    exact ⟨by omega, e2⟩
/-- What a path leads to. -/
theorem At.fn {n : api_Node} {q m a} (h : At n q m a) : ∀ {m' a'}, At n q m' a' → m = m' ∧ a = a' := by
  induction h with
  | nil n => intro m' a' h'; cases h'; exact ⟨rfl, rfl⟩
  | cons n i k q m a hi hn hk h ih =>
    intro m' a' h'
    cases h' with
    | cons _ _ k' _ _ a2 hi' _ _ h2 =>
      rw [hi] at hi'
      cases hi'
      obtain ⟨rfl, rfl⟩ := ih h2
      exact ⟨rfl, rfl⟩
/-- A spot within a node that a path leads to. -/
def SpotAt (m : api_Node) (idx off : Nat) : Prop := idx ≤ m.Kids.length ∧ (∀ k, m.Kids[idx]? = some k → off < nsize k ∧ (0 < off → isT k = true)) ∧ (idx = m.Kids.length → off = 0)
theorem SpotAt.idx {m : api_Node} {i r} (h : SpotAt m i r) : IdxOk m.Kids i r := ⟨h.1, fun k hk => (h.2.1 k hk).1, h.2.2⟩
theorem SpotAt.le {m : api_Node} {i r} (h : SpotAt m i r) : nsizes (m.Kids.take i) + r ≤ nsizes m.Kids := by
  rcases Nat.lt_or_ge i m.Kids.length with hi | hi
  · have hk : m.Kids[i]? = some m.Kids[i] := List.getElem?_eq_getElem hi
    have h1 := (h.2.1 _ hk).1
    have h2 := kid_sizes hk
    omega
  · have := h.2.2 (by have := h.1; omega)
    have := take_sizes m.Kids i
    omega
theorem spot_uniq {n : api_Node} {q m a} (h : At n q m a) : ∀ {q' m' a' i r i' r'}, At n q' m' a' → isT m = false → isT m' = false → SpotAt m i r → SpotAt m' i' r' → a + nsizes (m.Kids.take i) + r = a' + nsizes (m'.Kids.take i') + r' → q = q' ∧ i = i' ∧ r = r' := by
  induction h with
  | nil n =>
    intro q' m' a' i r i' r' h' hm hm' hs hs' e
    cases h' with
    | nil => 
      obtain ⟨e1, e2⟩ := idx_uniq n.Kids i r i' r' hs.idx hs'.idx (by omega)
      exact ⟨rfl, e1, e2⟩
    | cons _ j k' q2 _ a2 hi' hn' hk' h2 =>
      exfalso
      have hle := hs'.le
      have hsz := h2.sizes
      have hk2 := size_node hk'
      have hlt : j < n.Kids.length := (List.getElem?_eq_some_iff.1 hi').1
      obtain ⟨e1, e2⟩ := idx_uniq n.Kids i r j (1 + (a2 + nsizes (m'.Kids.take i') + r')) hs.idx ⟨by omega, fun k hk => by rw [hi'] at hk; cases hk; omega, fun e => by omega⟩ (by omega)
      subst e1
      have := (hs.2.1 k' hi').2 (by omega)
      rw [hk'] at this
      cases this
  | cons n j k q m a hi hn hk h ih =>
    intro q' m' a' i r i' r' h' hm hm' hs hs' e
    have hle := hs.le
    have hsz := h.sizes
    have hk2 := size_node hk
    have hlt : j < n.Kids.length := (List.getElem?_eq_some_iff.1 hi).1
    have I1 : IdxOk n.Kids j (1 + (a + nsizes (m.Kids.take i) + r)) := ⟨by omega, fun k2 hk2' => by rw [hi] at hk2'; cases hk2'; omega, fun e => by omega⟩
    cases h' with
    | nil =>
      exfalso
      obtain ⟨e1, e2⟩ := idx_uniq n.Kids _ _ _ _ I1 hs'.idx (by omega)
      subst e1
      have := (hs'.2.1 k hi).2 (by omega)
      rw [hk] at this
      cases this
    | cons _ j' k' q2 _ a2 hi' hn' hk' h2 =>
      have hle' := hs'.le
      have hsz' := h2.sizes
      have hk2' := size_node hk'
      have hlt' : j' < n.Kids.length := (List.getElem?_eq_some_iff.1 hi').1
      have I2 : IdxOk n.Kids j' (1 + (a2 + nsizes (m'.Kids.take i') + r')) := ⟨by omega, fun k2 hk3 => by rw [hi'] at hk3; cases hk3; omega, fun e => by omega⟩
      obtain ⟨e1, e2⟩ := idx_uniq n.Kids _ _ _ _ I1 I2 (by omega)
      subst e1
      rw [hi] at hi'
      cases hi'
      obtain ⟨e3, e4, e5⟩ := ih h2 hm hm' hs hs' (by omega)
      exact ⟨by rw [e3], e4, e5⟩

/-! ### Spots, and parts of what there is -/
theorem sz_nil {l : List It} (h : ∀ i ∈ l, NodI i) (hs : szI l = 0) : l = [] := by
  cases l with
  | nil => rfl
  | cons i l =>
    have := szI1_pos i (h i (by simp))
    simp only [szI] at hs
    omega
theorem pre_le {A B C D : List It} (hn : ∀ i ∈ A ++ B, NodI i) (h : A ++ B = C ++ D) (hs : szI A ≤ szI C) : ∃ M, C = A ++ M ∧ B = M ++ D := by
  rcases List.append_eq_append_iff.1 h with ⟨M, h1, h2⟩ | ⟨M, h1, h2⟩
  · exact ⟨M, h1, h2⟩
  · have : M = [] := by
      refine sz_nil (fun i hi => hn i (by rw [h1]; simp [hi])) ?_
      rw [h1, szI_app] at hs
      omega
    subst this
    simp only [List.append_nil, List.nil_append] at h1 h2
    exact ⟨[], by simp [h1], by simpa using h2.symm⟩
theorem spot_of_part : ∀ (K : List api_Node) (X R : List It), (∀ x ∈ K, formB x = true) → items K = X ++ R → ∃ idx off, nsizes (K.take idx) + off = szI X ∧ idx ≤ K.length ∧ (∀ k, K[idx]? = some k → off < nsize k ∧ (0 < off → isT k = true)) ∧ (idx = K.length → off = 0)
  | [], X, R, _, h => by
    have : X = [] := by
      cases X with
      | nil => rfl
      | cons => cases h
    subst this
    exact ⟨0, 0, rfl, Nat.le_refl _, by simp, fun _ => rfl⟩
  | k :: K, X, R, hf, h => by
    have hn : ∀ i ∈ itN k ++ items K, NodI i := items_nod (k :: K)
    rw [items] at h
    rcases Nat.lt_or_ge (szI X) (nsize k) with hc | hc
    · refine ⟨0, szI X, by simp [nsizes], by simp, ?_, by simp⟩
      intro k' hk'
      simp only [List.getElem?_cons_zero, Option.some.injEq] at hk'
      subst hk'
      refine ⟨hc, fun hp => ?_⟩
      cases ht : isT k with
      | true => rfl
      | false =>
        exfalso
        cases X with
        | nil => simp [szI] at hp
        | cons i X =>
          have : itN k = [It.nod k] := by unfold itN; rw [ht]; rfl
          rw [this] at h
          simp only [List.cons_append, List.nil_append, List.cons.injEq] at h
          rw [← h.1] at hc
          simp only [szI, szI1] at hc
          omega
    · obtain ⟨M, h1, h2⟩ := pre_le hn h (by rw [szI_itN]; exact hc)
      obtain ⟨idx, off, e1, e2, e3, e4⟩ := spot_of_part K M R (fun x hx => hf x (by simp [hx])) h2
      refine ⟨idx + 1, off, ?_, by simpa using e2, fun k' hk' => e3 k' (by simpa using hk'), fun e => e4 (by simpa using e)⟩
      rw [h1, szI_app, szI_itN]
      simp only [List.take_succ_cons, nsizes]
      omega
theorem part_of_spot {m : api_Node} {idx off : Nat} (h : SpotAt m idx off) : ∃ X R, items m.Kids = X ++ R ∧ szI X = nsizes (m.Kids.take idx) + off := by
  have e : items m.Kids = items (m.Kids.take idx) ++ items (m.Kids.drop idx) := by rw [← items_app, List.take_append_drop]
  by_cases h0 : off = 0
  · exact ⟨_, _, e, by rw [szI_items, h0]; rfl⟩
  · have hlt : idx < m.Kids.length := by
      rcases Nat.lt_or_ge idx m.Kids.length with h1 | h1
      · exact h1
      · exact (h0 (h.2.2 (by have := h.1; omega))).elim
    have hk : m.Kids[idx]? = some m.Kids[idx] := List.getElem?_eq_getElem hlt
    obtain ⟨h1, h2⟩ := h.2.1 _ hk
    have ht := h2 (by omega)
    rw [List.drop_eq_getElem_cons hlt, items] at e
    generalize m.Kids[idx] = k at *
    have ei : itN k = (runes k.Text).map fun c => It.sgn c k.Marks := by unfold itN; rw [if_pos ht]
    have ec : itN k = ((runes k.Text).take off).map (fun c => It.sgn c k.Marks) ++ ((runes k.Text).drop off).map fun c => It.sgn c k.Marks := by
      rw [← List.map_append, List.take_append_drop, ei]
    rw [ec, List.append_assoc, ← List.append_assoc] at e
    refine ⟨_, _, e, ?_⟩
    rw [szI_app, szI_items, szI_sgn, List.length_take]
    rw [nsize_eq, if_pos ht, ← runes_cnt] at h1
    omega

/-! ### Where two positions are -/
structure Flat (n : api_Node) (f t : Nat) (q : List Nat) (m : api_Node) (a : Nat) (X Y Z : List It) : Prop where
  at_ : At n q m a
  nt : isT m = false
  it : items m.Kids = X ++ (Y ++ Z)
  sx : a + szI X = f
  sy : f + szI Y = t
theorem At.form {n : api_Node} {q m a} (h : At n q m a) : formB n = true → formB m = true := by
  induction h with
  | nil n => exact id
  | cons n i k q m a hi hn hk h ih => exact fun hf => ih (forms_kids hf hn k (List.mem_of_getElem? hi))
theorem spot_at {n : api_Node} {q m a X R} (hf : formB n = true) (h : At n q m a) (hm : isT m = false) (e : items m.Kids = X ++ R) {s p} (hs : SpotOk n s p) (hp : a + szI X = p) : s.Path = up q := by
  obtain ⟨q', m', a', idx', off', rfl, h', hm', b1, b2, b3, b4⟩ := hs
  obtain ⟨idx, off, c1, c2, c3, c4⟩ := spot_of_part m.Kids X R (kids_row (h.form hf) hm).form e
  obtain ⟨rfl, _, _⟩ := spot_uniq h h' hm hm' ⟨c2, c3, c4⟩ ⟨b1, b3, b4⟩ (by omega)
  rfl

theorem eqI_l0 (b : List Int) : ∀ (suf pre : List Int) (i : Int), i = (pre.length : Int) → b.length = pre.length + suf.length → b.take pre.length = pre → slices_Equal_int_l0 b suf i = some (if pre ++ suf = b then .inr () else .inl false)
  | [], pre, i, hi, hl, ht => by
    have : pre = b := by
      rw [← ht, List.take_of_length_le]
      simp at hl; omega
    simp [slices_Equal_int_l0, this]
  | y :: suf, pre, i, hi, hl, ht => by
    simp only [List.length_cons] at hl
    obtain ⟨x, hx⟩ : ∃ x, b[pre.length]? = some x := ⟨b[pre.length], List.getElem?_eq_getElem (by omega)⟩
    rw [slices_Equal_int_l0, hi, rd_nat hx]
    simp only [Option.bind_some]
    have htk : b.take (pre.length + 1) = pre ++ [x] := by
      rw [List.take_add_one, ht, hx]
      rfl
    by_cases hxy : y = x
    · subst hxy
      simp only [bne_self_eq_false, Bool.false_eq_true, if_false]
      rw [eqI_l0 b suf (pre ++ [y]) _ (by simp) (by simp; omega) (by simpa using htk)]
      simp
    · have hn : ¬ pre ++ y :: suf = b := by
        intro h
        rw [← h] at hx
        simp at hx
        exact hxy hx
      have g : (y != x) = true := by simpa using hxy
      rw [if_pos g, if_neg hn]
theorem eqI_eq (a b : List Int) (h : a.length ≤ 9223372036854775807) : slices_Equal_int a b = some (decide (a = b)) := by
  unfold slices_Equal_int
  by_cases hl : a.length = b.length
  · simp only [hl, bne_self_eq_false, Bool.false_eq_true, if_false]
    rw [chk_eq (by omega), eqI_l0 b a [] 0 rfl (by simp [hl]) (by simp)]
    by_cases e : a = b <;> simp [e]
  · have h1 : ((a.length : Int) != (b.length : Int)) = true := by simp; omega
    have h2 : ¬ a = b := fun e => hl (by rw [e])
    rw [if_pos h1]
    simp [h2]
abbrev flat0 : piece_flat := { path := [], in_ := nil0, from_ := (0 : Int), to_ := (0 : Int) }
theorem SpotOk.len {n : api_Node} {s p} (h : SpotOk n s p) : s.Path.length ≤ p := by
  obtain ⟨q, m, a, idx, off, rfl, h1, _, _, h2, _⟩ := h
  rw [up_len]
  have := h1.len
  omega
/-- What is right, and no text. -/
structure RN (n : api_Node) : Prop where
  ok : checkN n = 0
  nt : isT n = false
  wt : nwt n ≤ 549755813888
theorem check_form {n : api_Node} (h : checkN n = 0) : formB n = true ∧ depN n ≤ 40 ∧ nsize n ≤ 4000 := by
  unfold checkN at h
  cases hf : formB n with
  | false => rw [hf] at h; simp at h
  | true =>
    rw [hf] at h
    simp only [Bool.true_eq_false, if_false] at h
    refine ⟨rfl, ?_, ?_⟩
    · by_cases hd : 40 < depN n
      · rw [if_pos hd] at h; cases h
      · omega
    · by_cases hd : 40 < depN n
      · rw [if_pos hd] at h; cases h
      · rw [if_neg hd] at h
        by_cases hs : 4000 < nsize n
        · rw [if_pos hs] at h; cases h
        · omega
theorem RN.form {n : api_Node} (h : RN n) : formB n = true := (check_form h.ok).1

theorem where_flat {n : api_Node} (hn : RN n) {f t q m a X Y Z} (h : Flat n f t q m a X Y Z) : piece_where n (f : Int) (t : Int) = some (⟨up q, m, (szI X : Int), ((szI X + szI Y : Nat) : Int)⟩, 0) := by
  obtain ⟨h1, h2, h3, h4, h5⟩ := h
  have hw := hn.wt
  have z1 := h1.sizes
  have z2 : szI X + (szI Y + szI Z) = nsizes m.Kids := by rw [← szI_items, h3, szI_app, szI_app]
  have z3 := nsizes_le' n.Kids
  have z4 := nwts_kids n
  have z5 := h1.len
  obtain ⟨s1, e1, o1⟩ := resolve_eq hn.nt (by omega) f (by omega)
  obtain ⟨s2, e2, o2⟩ := resolve_eq hn.nt (by omega) t (by omega)
  have p1 := spot_at hn.form h1 h2 (R := Y ++ Z) h3 o1 h4
  have p2 := spot_at hn.form h1 h2 (X := X ++ Y) (R := Z) (by rw [h3, List.append_assoc]) o2 (by rw [szI_app]; omega)
  have l1 := o1.len
  have g0 : (n.Kind == ([116, 101, 120, 116] : Str)) = false := hn.nt
  have g1 : decide ((t : Int) < (f : Int)) = false := by simp; omega
  unfold piece_where
  rw [g0]
  simp only [Bool.false_eq_true, if_false]
  rw [right_eq n (by omega), hn.ok]
  simp only [Option.bind_some, beq_self_eq_true, Bool.not_true, Bool.false_eq_true, if_false]
  rw [e1]
  simp only [Option.bind_some, bne_self_eq_false, Bool.false_eq_true, if_false]
  rw [e2]
  simp only [Option.bind_some, bne_self_eq_false, Bool.false_eq_true, if_false, g1]
  rw [eqI_eq _ _ (by omega), p1, p2]
  simp only [Option.bind_some, decide_true, Bool.not_true, Bool.false_eq_true, if_false]
  rw [start_eq h1 h2 (by omega), inner_eq h1 h2 (by omega)]
  simp only [Option.bind_some]
  unfold piece_where_1_x
  simp only [bne_self_eq_false, Bool.false_eq_true, if_false, Option.bind_some]
  rw [w64_eq (by omega), w64_eq (by omega)]
  congr 2
  have e3 : (f : Int) - (a : Int) = (szI X : Int) := by omega
  have e4 : (t : Int) - (a : Int) = ((szI X + szI Y : Nat) : Int) := by omega
  rw [e3, e4]
theorem where_apart {n : api_Node} (hn : RN n) {f t : Nat} (hft : f ≤ t) {s1 s2} (o1 : SpotOk n s1 f) (e1 : place_Resolve n (f : Int) = some (s1, 0)) (e2 : place_Resolve n (t : Int) = some (s2, 0)) (hne : s1.Path ≠ s2.Path) : piece_where n (f : Int) (t : Int) = some (flat0, 10) := by
  have hw := hn.wt
  have l1 := o1.len
  have l2 := o1.le
  have z3 := nsizes_le' n.Kids
  have z4 := nwts_kids n
  have g0 : (n.Kind == ([116, 101, 120, 116] : Str)) = false := hn.nt
  have g1 : decide ((t : Int) < (f : Int)) = false := by simp; omega
  unfold piece_where
  rw [g0]
  simp only [Bool.false_eq_true, if_false]
  rw [right_eq n (by omega), hn.ok]
  simp only [Option.bind_some, beq_self_eq_true, Bool.not_true, Bool.false_eq_true, if_false]
  rw [e1]
  simp only [Option.bind_some, bne_self_eq_false, Bool.false_eq_true, if_false]
  rw [e2]
  simp only [Option.bind_some, bne_self_eq_false, Bool.false_eq_true, if_false, g1]
  rw [eqI_eq _ _ (by omega)]
  simp only [Option.bind_some, hne, decide_false, Bool.not_false, if_true]
  unfold piece_where_1_x
  rfl
theorem flat_of {n : api_Node} (hn : RN n) {f t : Nat} (hft : f ≤ t) {s1 s2} (o1 : SpotOk n s1 f) (o2 : SpotOk n s2 t) (he : s1.Path = s2.Path) : ∃ q m a X Y Z, Flat n f t q m a X Y Z ∧ s1.Path = up q := by
  obtain ⟨q, m, a, idx, off, rfl, h1, hm, b1, b2, b3, b4⟩ := o1
  obtain ⟨q', m', a', idx', off', rfl, h1', hm', c1, c2, c3, c4⟩ := o2
  have : q = q' := up_inj he
  subst this
  obtain ⟨rfl, rfl⟩ := h1.fn h1'
  obtain ⟨X, R, x1, x2⟩ := part_of_spot (m := m) ⟨b1, b3, b4⟩
  obtain ⟨X', R', y1, y2⟩ := part_of_spot (m := m) ⟨c1, c3, c4⟩
  obtain ⟨M, m1, m2⟩ := pre_le (by rw [← x1]; exact items_nod _) (x1.symm.trans y1) (by omega)
  refine ⟨q, m, a, X, M, R', ⟨h1, hm, ?_, by omega, ?_⟩, rfl⟩
  · rw [x1, m2]
  · rw [m1, szI_app] at y2
    omega
/-- One position is one piece. -/
theorem flat_one {n : api_Node} (hn : RN n) {f : Nat} (hf : f ≤ nsizes n.Kids) : ∃ q m a X Z, Flat n f f q m a X [] Z := by
  obtain ⟨s, _, o⟩ := resolve_eq hn.nt (by have := hn.wt; omega) f hf
  obtain ⟨q, m, a, X, Y, Z, h, _⟩ := flat_of hn (Nat.le_refl f) o o rfl
  have hz : szI Y = 0 := by have := h.sy; omega
  have : Y = [] := sz_nil (fun i hi => items_nod m.Kids i (by rw [h.it]; simp [hi])) hz
  subst this
  exact ⟨q, m, a, X, Z, h⟩

end Go.Proofs.YtblielhogcnnkaaDoor
