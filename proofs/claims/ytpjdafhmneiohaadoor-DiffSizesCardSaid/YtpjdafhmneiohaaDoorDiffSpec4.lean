/- Where two nodes differ: the chain of nodes down to there, and what the program says of it. -/
import Derived.Test.YtpjdafhmneiohaaDoorDiffSpec2
namespace Go.Proofs.YtpjdafhmneiohaaDoor
set_option linter.unusedSimpArgs false
set_option linter.unusedVariables false
open Go Classical

noncomputable def dh (a b : api_Node) : Nat := cH a.Kids b.Kids
noncomputable def dt (a b : api_Node) : Nat := cT a.Kids b.Kids (dh a b)
noncomputable def dm (a b : api_Node) : Nat := a.Kids.length - dh a b - dt a b
noncomputable def dn (a b : api_Node) : Nat := b.Kids.length - dh a b - dt a b
theorem dh_le (a b : api_Node) : dh a b ≤ a.Kids.length ∧ dh a b ≤ b.Kids.length := cH_le _ _
theorem dt_le (a b : api_Node) : dh a b + dt a b ≤ a.Kids.length ∧ dh a b + dt a b ≤ b.Kids.length := by
  have := dh_le a b
  unfold dt cT
  omega
/-- Attributes that differ, as steps. -/
def attP (f : Int) : List api_Attr → List api_Attr → List step_Step
  | x :: l, y :: r => if (y.Value == x.Value) = true then attP f l r else ⟨97, f, 0, [], x.Name, y.Value⟩ :: attP f l r
  | _, _ => []
theorem attP_len (f : Int) : ∀ l r : List api_Attr, (attP f l r).length ≤ l.length
  | [], r => by simp [attP]
  | x :: l, [] => by simp [attP]
  | x :: l, y :: r => by
    have := attP_len f l r
    rw [attP]
    split <;> simp <;> omega
theorem set_l0 (B : List api_Attr) (at' : Int) : ∀ (suf tb pb : List api_Attr) (i : Int) (v : List step_Step), B = pb ++ tb → i = (pb.length : Int) → suf.length = tb.length → v.length + suf.length ≤ 1099511627776 → diff_change_set_xx_l0 B at' suf i v = some (v ++ attP (w64 (at' - 1)) suf tb)
  | [], tb, pb, i, v, hb, hi, hs, _ => by simp [diff_change_set_xx_l0, attP]
  | y :: suf, [], pb, i, v, hb, hi, hs, _ => by simp at hs
  | y :: suf, x :: tb, pb, i, v, hb, hi, hs, hv => by
    simp only [List.length_cons] at hs hv
    have hl := congrArg List.length hb
    simp only [List.length_append, List.length_cons] at hl
    have g : decide (i < (B.length : Int)) = true := by simp; omega
    have r : rd B i = some x := by rw [hb, hi]; exact rd_mid _ _ _
    rw [diff_change_set_xx_l0, g]
    simp only [if_true, r, Option.bind_some]
    by_cases e : (x.Value == y.Value) = true
    · rw [if_neg (by simp [e]), set_l0 B at' suf tb (pb ++ [x]) _ v (by simp [hb]) (by simp [hi]) (by omega) (by omega), attP, if_pos e]
    · rw [if_pos (by simpa using e), app_eq (by simp; omega)]
      simp only [Option.bind_some]
      rw [set_l0 B at' suf tb (pb ++ [x]) _ _ (by simp [hb]) (by simp [hi]) (by omega) (by simp; omega), attP, if_neg e]
      simp
def attC (x : api_Node × api_Node × Nat) : List step_Step := attP ((x.2.2 : Int) - 1) x.1.Attrs x.2.1.Attrs

/-- The chain of nodes in which two nodes differ, down to where they differ. -/
inductive Dif : api_Node → api_Node → Nat → List Nat → List (api_Node × api_Node × Nat) → api_Node → api_Node → Nat → Prop
  | stop (a b : api_Node) (s : Nat) (h : ¬ (dm a b = 1 ∧ dn a b = 1 ∧ ∀ x y, a.Kids[dh a b]? = some x → b.Kids[dh a b]? = some y → alD x y = true)) : Dif a b s [] [(a, b, s)] a b s
  | go (a b : api_Node) (s : Nat) (x y : api_Node) (q : List Nat) (c : List (api_Node × api_Node × Nat)) (m m' : api_Node) (e : Nat) (h1 : dm a b = 1) (h2 : dn a b = 1) (hx : a.Kids[dh a b]? = some x) (hy : b.Kids[dh a b]? = some y) (ha : alD x y = true)
      (r : Dif x y (s + nsizes (a.Kids.take (dh a b)) + 1) q c m m' e) : Dif a b s (dh a b :: q) ((a, b, s) :: c) m m' e
theorem dif_ex : ∀ (d : Nat) (a b : api_Node) (s : Nat), ndep a ≤ d → ∃ q c m m' e, Dif a b s q c m m' e
  | 0, a, b, s, hd => by have := ndep_eq a; omega
  | d + 1, a, b, s, hd => by
    by_cases h : dm a b = 1 ∧ dn a b = 1 ∧ ∀ x y, a.Kids[dh a b]? = some x → b.Kids[dh a b]? = some y → alD x y = true
    · obtain ⟨h1, h2, h3⟩ := h
      have l1 : dh a b < a.Kids.length := by unfold dm at h1; omega
      have l2 : dh a b < b.Kids.length := by unfold dn at h2; omega
      have hx : a.Kids[dh a b]? = some a.Kids[dh a b] := List.getElem?_eq_getElem l1
      have hy : b.Kids[dh a b]? = some b.Kids[dh a b] := List.getElem?_eq_getElem l2
      have hdx := ndep_mem (List.mem_of_getElem? hx)
      have := ndep_eq a
      obtain ⟨q, c, m, m', e, r⟩ := dif_ex d a.Kids[dh a b] b.Kids[dh a b] (s + nsizes (a.Kids.take (dh a b)) + 1) (by omega)
      exact ⟨_, _, _, _, _, .go a b s _ _ q c m m' e h1 h2 hx hy (h3 _ _ hx hy) r⟩
    · exact ⟨_, _, _, _, _, .stop a b s h⟩
theorem alD_len {a b : api_Node} (h : alD a b = true) : a.Attrs.length = b.Attrs.length := by
  unfold alD at h
  simp only [Bool.and_eq_true, decide_eq_true_eq] at h
  simpa using congrArg List.length h.2
theorem alD_nt {a b : api_Node} (h : alD a b = true) : isT a = false ∧ isT b = false := by
  unfold alD at h
  simp only [Bool.and_eq_true, decide_eq_true_eq, Bool.not_eq_true'] at h
  refine ⟨h.1.2, ?_⟩
  have := h.1.2
  unfold isT at this ⊢
  rw [← h.1.1]
  exact this
theorem of_heads (a b : api_Node) (hw : nwt a ≤ 1073741824) (hwb : nwt b ≤ 1073741824) :
    (lim fun k => diff_of_l3 a.Kids b.Kids k (0 : Int)) = some ((dh a b : Nat) : Int) ∧ (lim fun k => diff_of_l4 a.Kids b.Kids ((dh a b : Nat) : Int) k (0 : Int)) = some ((dt a b : Nat) : Int) := by
  have w1 := nwts_kids a
  have w2 := nwts_kids b
  have l1 := nwts_len a.Kids
  have l2 := nwts_len b.Kids
  have hd := dh_le a b
  constructor
  · refine lim_of (a.Kids.length + 1) fun k hk => ?_
    have := of_l3 a.Kids b.Kids (by omega) (by omega) a.Kids b.Kids [] [] k rfl rfl rfl (by omega)
    simpa [dh] using this
  · refine lim_of (a.Kids.length + 1) fun k hk => ?_
    have := of_l4 a.Kids b.Kids (dh a b) (by omega) (by omega) hd a.Kids.reverse b.Kids.reverse [] [] k (by simp) (by simp) rfl (by simp) (by simp; omega)
    simpa [dt, cT] using this
theorem of_l0_eq {a b s q c m m' e} (D : Dif a b s q c m m' e) : ∀ (k : Nat) (h0 m0 n0 : Int) (p : List Int) (v : List step_Step), q.length < k → nwt a ≤ 1073741824 → nwt b ≤ 1073741824 → s + nwt a ≤ 4294967296 → p.length + nwt a ≤ 4294967296 → v.length + nwt a ≤ 4294967296 → a.Attrs.length = b.Attrs.length →
    diff_of_l0 k a.Kind a.Text a.Marks a.Attrs a.Kids b.Kind b.Text b.Marks b.Attrs b.Kids (s : Int) h0 m0 n0 p v = some (m.Kids, m'.Kids, m.Kind, m.Text, m.Marks, m.Attrs, m'.Kind, m'.Text, m'.Marks, m'.Attrs, (e : Int), ((dh m m' : Nat) : Int), ((dm m m' : Nat) : Int), ((dn m m' : Nat) : Int), p ++ q.map (fun i : Nat => (i : Int)), v ++ c.flatMap attC) := by
  induction D with
  | stop a b s h =>
    intro k h0 m0 n0 p v hk hwa hwb hs hp hv hal
    obtain ⟨k, rfl⟩ : ∃ j, k = j + 1 := ⟨k - 1, by omega⟩
    have wa := nwt_eq a
    have la := attrsW_n a.Attrs
    have l1 := nwts_len a.Kids
    have l2 := nwts_len b.Kids
    have w2 := nwts_kids b
    obtain ⟨e1, e2⟩ := of_heads a b hwa hwb
    have hd := dt_le a b
    have n1 : w64 (w64 ((a.Kids.length : Int) - ((dh a b : Nat) : Int)) - ((dt a b : Nat) : Int)) = ((dm a b : Nat) : Int) := by
      rw [w64_eq (x := (a.Kids.length : Int) - ((dh a b : Nat) : Int)) (by omega), w64_eq (by omega)]; unfold dm; omega
    have n2 : w64 (w64 ((b.Kids.length : Int) - ((dh a b : Nat) : Int)) - ((dt a b : Nat) : Int)) = ((dn a b : Nat) : Int) := by
      rw [w64_eq (x := (b.Kids.length : Int) - ((dh a b : Nat) : Int)) (by omega), w64_eq (by omega)]; unfold dn; omega
    rw [diff_of_l0]
    unfold diff_change_set_xx
    rw [chk_eq (by omega), set_l0 b.Attrs (s : Int) a.Attrs b.Attrs [] 0 v rfl rfl hal (by omega)]
    simp only [Option.bind_some]
    rw [chk_eq trivial, e1]
    simp only [Option.bind_some]
    rw [e2]
    simp only [Option.bind_some, n1, n2]
    rw [w64_eq (x := (s : Int) - 1) (by omega)]
    have fin : (some (a.Kids, b.Kids, a.Kind, a.Text, a.Marks, a.Attrs, b.Kind, b.Text, b.Marks, b.Attrs, (s : Int), ((dh a b : Nat) : Int), ((dm a b : Nat) : Int), ((dn a b : Nat) : Int), p, v ++ attP ((s : Int) - 1) a.Attrs b.Attrs) : Option _) = some (a.Kids, b.Kids, a.Kind, a.Text, a.Marks, a.Attrs, b.Kind, b.Text, b.Marks, b.Attrs, (s : Int), ((dh a b : Nat) : Int), ((dm a b : Nat) : Int), ((dn a b : Nat) : Int), p ++ ([] : List Nat).map (fun i : Nat => (i : Int)), v ++ [(a, b, s)].flatMap attC) := by
      simp [attC]
    rw [← fin]
    by_cases h1 : dm a b = 1
    · rw [if_neg (by simp [h1])]
      by_cases h2 : dn a b = 1
      · rw [if_neg (by simp [h2])]
        have k1 : dh a b < a.Kids.length := by unfold dm at h1; omega
        have k2 : dh a b < b.Kids.length := by unfold dn at h2; omega
        have hx : a.Kids[dh a b]? = some a.Kids[dh a b] := List.getElem?_eq_getElem k1
        have hy : b.Kids[dh a b]? = some b.Kids[dh a b] := List.getElem?_eq_getElem k2
        have hwx := nwt_mem (List.mem_of_getElem? hx)
        have hlx := attrsW_n a.Kids[dh a b].Attrs
        have hwx2 := nwt_eq a.Kids[dh a b]
        rw [rd_nat hx]
        simp only [Option.bind_some]
        rw [rd_nat hy]
        simp only [Option.bind_some]
        rw [alike_d _ _ (by omega)]
        have hf : alD a.Kids[dh a b] b.Kids[dh a b] = false := by
          cases hc : alD a.Kids[dh a b] b.Kids[dh a b] with
          | false => rfl
          | true =>
            exfalso
            refine h ⟨h1, h2, fun x y hx' hy' => ?_⟩
            rw [hx] at hx'
            rw [hy] at hy'
            cases hx'
            cases hy'
            exact hc
        rw [hf]
        simp
      · rw [if_pos (by simp; omega)]
    · rw [if_pos (by simp; omega)]
  | go a b s x y q c m m' e h1 h2 hx hy ha r ih =>
    intro k h0 m0 n0 p v hk hwa hwb hs hp hv hal
    simp only [List.length_cons] at hk
    obtain ⟨k, rfl⟩ : ∃ j, k = j + 1 := ⟨k - 1, by omega⟩
    have wa := nwt_eq a
    have la := attrsW_n a.Attrs
    have l1 := nwts_len a.Kids
    have l2 := nwts_len b.Kids
    have w2 := nwts_kids b
    obtain ⟨e1, e2⟩ := of_heads a b hwa hwb
    have hd := dt_le a b
    have n1 : w64 (w64 ((a.Kids.length : Int) - ((dh a b : Nat) : Int)) - ((dt a b : Nat) : Int)) = ((dm a b : Nat) : Int) := by
      rw [w64_eq (x := (a.Kids.length : Int) - ((dh a b : Nat) : Int)) (by omega), w64_eq (by omega)]; unfold dm; omega
    have n2 : w64 (w64 ((b.Kids.length : Int) - ((dh a b : Nat) : Int)) - ((dt a b : Nat) : Int)) = ((dn a b : Nat) : Int) := by
      rw [w64_eq (x := (b.Kids.length : Int) - ((dh a b : Nat) : Int)) (by omega), w64_eq (by omega)]; unfold dn; omega
    have hkw := kid_wts hx
    have hky := nwt_mem (List.mem_of_getElem? hy)
    have hlx := attrsW_n x.Attrs
    have hwx2 := nwt_eq x
    have hsz := nsizes_le' (a.Kids.take (dh a b))
    have hap := attP_len ((s : Int) - 1) a.Attrs b.Attrs
    rw [diff_of_l0]
    unfold diff_change_set_xx
    rw [chk_eq (by omega), set_l0 b.Attrs (s : Int) a.Attrs b.Attrs [] 0 v rfl rfl hal (by omega)]
    simp only [Option.bind_some]
    rw [chk_eq trivial, e1]
    simp only [Option.bind_some]
    rw [e2]
    simp only [Option.bind_some, n1, n2]
    rw [w64_eq (x := (s : Int) - 1) (by omega)]
    rw [if_neg (by simp [h1]), if_neg (by simp [h2]), rd_nat hx]
    simp only [Option.bind_some]
    rw [rd_nat hy]
    simp only [Option.bind_some]
    rw [alike_d _ _ (by omega), ha]
    simp only [Option.bind_some, Bool.not_true, Bool.false_eq_true, if_false]
    rw [app_eq (by simp; omega)]
    simp only [Option.bind_some]
    have hsl : sl a.Kids 0 ((dh a b : Nat) : Int) = some (a.Kids.take (dh a b)) := sl_take (by omega)
    rw [hsl]
    simp only [Option.bind_some]
    rw [total_eq _ (by omega)]
    simp only [Option.bind_some]
    have es : w64 ((s : Int) + w64 ((nsizes (a.Kids.take (dh a b)) : Int) + 1)) = ((s + nsizes (a.Kids.take (dh a b)) + 1 : Nat) : Int) := by
      rw [w64_eq (x := (nsizes (a.Kids.take (dh a b)) : Int) + 1) (by omega), w64_eq (by omega)]; omega
    rw [es]
    rw [ih k _ _ _ (p ++ [((dh a b : Nat) : Int)]) (v ++ attP ((s : Int) - 1) a.Attrs b.Attrs) (by omega) (by omega) (by omega) (by omega) (by simp; omega) (by rw [List.length_append]; omega) (alD_len ha)]
    simp [attC]

theorem Dif.pre {a b s q c m m' e} (D : Dif a b s q c m m' e) : isT a = false → isT b = false → a.Attrs.length = b.Attrs.length → c.length = q.length + 1 ∧ (∃ t t', e = s + t ∧ At a q m t ∧ At b q m' t' ∧ isT m = false ∧ isT m' = false) ∧
    ∀ i, i ≤ q.length → ∃ x y t t', c[i]? = some (x, y, s + t) ∧ At a (q.take i) x t ∧ At b (q.take i) y t' ∧ isT x = false ∧ isT y = false ∧ x.Attrs.length = y.Attrs.length := by
  induction D with
  | stop a b s h =>
    intro ha hb hl
    refine ⟨rfl, ⟨0, 0, rfl, .nil _, .nil _, ha, hb⟩, fun i hi => ?_⟩
    simp only [List.length_nil, Nat.le_zero] at hi
    subst hi
    exact ⟨a, b, 0, 0, rfl, .nil _, .nil _, ha, hb, hl⟩
  | go a b s x y q c m m' e h1 h2 hx hy hal r ih =>
    intro ha hb hl
    obtain ⟨nx, ny⟩ := alD_nt hal
    obtain ⟨i1, ⟨t, t', i2, i3, i4, i5, i6⟩, i7⟩ := ih nx ny (alD_len hal)
    refine ⟨by simp [i1], ⟨_, _, ?_, .cons a (dh a b) x q m t hx ha nx i3, .cons b (dh a b) y q m' t' hy hb ny i4, i5, i6⟩, fun i hi => ?_⟩
    · omega
    · cases i with
      | zero => exact ⟨a, b, 0, 0, rfl, .nil _, .nil _, ha, hb, hl⟩
      | succ i =>
        obtain ⟨u, v, w, w', j1, j2, j3, j4, j5, j6⟩ := i7 i (by simpa using hi)
        refine ⟨u, v, nsizes (a.Kids.take (dh a b)) + 1 + w, _, ?_, .cons a (dh a b) x (q.take i) u w hx ha nx j2, .cons b (dh a b) y (q.take i) v w' hy hb ny j3, j4, j5, j6⟩
        rw [List.getElem?_cons_succ, j1]
        congr 3
        omega
end Go.Proofs.YtpjdafhmneiohaaDoor
