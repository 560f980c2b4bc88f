/- Where two nodes differ: what the reference says of it. -/
import Derived.Test.YtblielhogcnnkaaDoorDiffSpec4
namespace Go.Proofs.YtblielhogcnnkaaDoor
set_option linter.unusedSimpArgs false
set_option linter.unusedVariables false
open Go Classical

theorem where_ends (a b : api_Node) (hw : nwt a ≤ 1073741824) (hwb : nwt b ≤ 1073741824) : diptychref18_Where_l0 b a.Kids 0 = some ((dh a b : Nat) : Int) ∧ (lim fun k => diptychref18_Where_l1 a b ((dh a b : Nat) : Int) k (a.Kids.length : Int) (b.Kids.length : Int)) = some (((a.Kids.length - dt a b : Nat) : Int), ((b.Kids.length - dt a b : Nat) : Int)) := by
  have w1 := nwts_kids a
  have w2 := nwts_kids b
  have l1 := nwts_len a.Kids
  have l2 := nwts_len b.Kids
  have hd := dh_le a b
  constructor
  · have := where_l0 b a.Kids b.Kids [] 0 rfl rfl (by omega)
    simpa [dh] using this
  · refine lim_of (a.Kids.length + 1) fun k hk => ?_
    have := where_l1 a b (dh a b) (by omega) (by omega) a.Kids.reverse b.Kids.reverse [] [] k (by simp) (by simp) (by simp; omega) (by simp; omega) (by simp; omega)
    simp only [List.length_reverse] at this
    rw [this]
    have e : min (cH a.Kids.reverse b.Kids.reverse) (min (a.Kids.length - dh a b) (b.Kids.length - dh a b)) = dt a b := by
      unfold dt cT; omega
    rw [e]
theorem where_k {a b s q c m m' e} (D : Dif a b s q c m m' e) : ∀ kr, q.length < kr → nwt a ≤ 1073741824 → nwt b ≤ 1073741824 → diptychref18_Where_k kr a b = some (up q, ((dh m m' : Nat) : Int), ((dm m m' : Nat) : Int), ((dn m m' : Nat) : Int)) := by
  induction D with
  | stop a b s h =>
    intro kr hk hwa hwb
    obtain ⟨kr, rfl⟩ : ∃ j, kr = j + 1 := ⟨kr - 1, by omega⟩
    have l1 := nwts_len a.Kids
    have l2 := nwts_len b.Kids
    have w1 := nwts_kids a
    have w2 := nwts_kids b
    have hd := dt_le a b
    obtain ⟨e1, e2⟩ := where_ends a b hwa hwb
    have m1 : w64 (((a.Kids.length - dt a b : Nat) : Int) - ((dh a b : Nat) : Int)) = ((dm a b : Nat) : Int) := by rw [w64_eq (by omega)]; unfold dm; omega
    have m2 : w64 (((b.Kids.length - dt a b : Nat) : Int) - ((dh a b : Nat) : Int)) = ((dn a b : Nat) : Int) := by rw [w64_eq (by omega)]; unfold dn; omega
    have g : w64 (((dh a b : Nat) : Int) + 1) = ((dh a b : Nat) : Int) + 1 := w64_eq (by omega)
    rw [diptychref18_Where_k, chk_eq (by omega), e1]
    simp only [Option.bind_some]
    rw [e2]
    simp only [Option.bind_some, m1, m2, g]
    by_cases h1 : dm a b = 1
    · have c1 : (((a.Kids.length - dt a b : Nat) : Int) == ((dh a b : Nat) : Int) + 1) = true := by simp; unfold dm at h1; omega
      rw [c1]
      simp only [if_true]
      by_cases h2 : dn a b = 1
      · have c2 : (((b.Kids.length - dt a b : Nat) : Int) == ((dh a b : Nat) : Int) + 1) = true := by simp; unfold dn at h2; omega
        rw [c2]
        simp only [if_true]
        have k1 : dh a b < a.Kids.length := by unfold dm at h1; omega
        have k2 : dh a b < b.Kids.length := by unfold dn at h2; omega
        have hx : a.Kids[dh a b]? = some a.Kids[dh a b] := List.getElem?_eq_getElem k1
        have hy : b.Kids[dh a b]? = some b.Kids[dh a b] := List.getElem?_eq_getElem k2
        have hwx := nwt_mem (List.mem_of_getElem? hx)
        have hlx := attrsW_n a.Kids[dh a b].Attrs
        have hwx2 := nwt_eq a.Kids[dh a b]
        rw [rd_nat hx]
        simp only [Option.bind_some]
        rw [rd_nat hy]
        simp only [Option.bind_some]
        rw [ralike_d _ _ (by omega)]
        have hf : alD a.Kids[dh a b] b.Kids[dh a b] = false := by
          cases hc : alD a.Kids[dh a b] b.Kids[dh a b] with
          | false => rfl
          | true =>
            exfalso
            refine h ⟨h1, h2, fun x y hx' hy' => ?_⟩
            rw [hx] at hx'
            rw [hy] at hy'
            cases hx'
            cases hy'
            exact hc
        rw [hf]
        simp [up]
      · have c2 : (((b.Kids.length - dt a b : Nat) : Int) == ((dh a b : Nat) : Int) + 1) = false := by simp; unfold dn at h2; omega
        rw [c2]
        simp [up]
    · have c1 : (((a.Kids.length - dt a b : Nat) : Int) == ((dh a b : Nat) : Int) + 1) = false := by simp; unfold dm at h1; omega
      rw [c1]
      simp [up]
  | go a b s x y q c m m' e h1 h2 hx hy ha r ih =>
    intro kr hk hwa hwb
    simp only [List.length_cons] at hk
    obtain ⟨kr, rfl⟩ : ∃ j, kr = j + 1 := ⟨kr - 1, by omega⟩
    have l1 := nwts_len a.Kids
    have l2 := nwts_len b.Kids
    have w1 := nwts_kids a
    have w2 := nwts_kids b
    have hd := dt_le a b
    obtain ⟨e1, e2⟩ := where_ends a b hwa hwb
    have g : w64 (((dh a b : Nat) : Int) + 1) = ((dh a b : Nat) : Int) + 1 := w64_eq (by omega)
    have c1 : (((a.Kids.length - dt a b : Nat) : Int) == ((dh a b : Nat) : Int) + 1) = true := by simp; unfold dm at h1; omega
    have c2 : (((b.Kids.length - dt a b : Nat) : Int) == ((dh a b : Nat) : Int) + 1) = true := by simp; unfold dn at h2; omega
    have hkw := nwt_mem (List.mem_of_getElem? hx)
    have hky := nwt_mem (List.mem_of_getElem? hy)
    have hlx := attrsW_n x.Attrs
    have hwx2 := nwt_eq x
    have hql : q.length ≤ 1099511627776 := by
      have : ∀ {a b s q c m m' e}, Dif a b s q c m m' e → q.length ≤ nwt a := by
        intro a b s q c m m' e D
        induction D with
        | stop a b s h => simp
        | go a b s x y q c m m' e h1 h2 hx hy ha r ih =>
          have := nwt_mem (List.mem_of_getElem? hx)
          have := nwt_eq a
          simp only [List.length_cons]; omega
      have := this r
      omega
    rw [diptychref18_Where_k, chk_eq (by omega), e1]
    simp only [Option.bind_some]
    rw [e2]
    simp only [Option.bind_some, g, c1, c2, if_true]
    rw [rd_nat hx]
    simp only [Option.bind_some]
    rw [rd_nat hy]
    simp only [Option.bind_some]
    rw [ralike_d _ _ (by omega), ha]
    simp only [Option.bind_some, if_true]
    rw [ih kr (by omega) (by omega) (by omega)]
    simp only [Option.bind_some]
    rw [app_eq (by simp [up]; omega)]
    rfl

/-! ### Along the chain -/
theorem rin_l0 {n : api_Node} {q m a} (h : At n q m a) : ∀ v, diptychref4_Inner_l0 (up q) v n = some (.inr m) := by
  induction h with
  | nil n => intro v; rfl
  | cons n i k q m a hi hn hk h ih =>
    intro v
    have hl := (List.getElem?_eq_some_iff.1 hi).1
    have h1 : decide ((i : Int) < 0) = false := by simp
    have h2 : decide ((i : Int) ≥ (n.Kids.length : Int)) = false := by simp; omega
    rw [up_cons, diptychref4_Inner_l0]
    simp only [isT_def, h1, h2, hn, Bool.false_eq_true, if_false, rd_nat hi, Option.bind_some, ih]
theorem rin_eq {n : api_Node} {q m a} (h : At n q m a) (hm : isT m = false) (hq : q.length ≤ 9223372036854775807) : diptychref4_Inner n (up q) = some (m, 0) := by
  unfold diptychref4_Inner
  rw [up_len, chk_eq hq, rin_l0 h]
  simp only [Option.bind_some, isT_def, hm, Bool.false_eq_true, if_false]
theorem rst_l0 {n : api_Node} {q m a} (h : At n q m a) : ∀ v (t : Nat), nwt n ≤ 1099511627776 → t + a ≤ 4611686018427387904 → diptychref4_Start_l0 (up q) v (t : Int) n = some ((t + a : Nat) : Int) := by
  induction h with
  | nil n => intro v t _ _; rfl
  | cons n i k q m a hi hn hk h ih =>
    intro v t hw ht
    have hl := (List.getElem?_eq_some_iff.1 hi).1
    have h1 := kid_wts hi
    have h2 := nwts_kids n
    have h3 := nsizes_le' (n.Kids.take i)
    rw [up_cons, diptychref4_Start_l0, sl_take (by omega)]
    simp only [Option.bind_some]
    rw [rtot_eq _ (by omega), rd_nat hi]
    simp only [Option.bind_some]
    have e : w64 (w64 ((t : Int) + (nsizes (n.Kids.take i) : Int)) + 1) = ((t + (nsizes (n.Kids.take i) + 1) : Nat) : Int) := by
      rw [w64_eq (x := (t : Int) + (nsizes (n.Kids.take i) : Int)) (by omega), w64_eq (by omega)]
      omega
    rw [e, ih _ _ (by omega) (by omega)]
    simp only [Option.some.injEq]
    omega
theorem rst_eq {n : api_Node} {q m a} (h : At n q m a) (hm : isT m = false) (hw : nwt n ≤ 1099511627776) : diptychref4_Start n (up q) = some ((a : Int), 0) := by
  have h1 := h.len
  have h2 := h.sizes
  have h3 := nsizes_le' n.Kids
  have h4 := nwts_kids n
  unfold diptychref4_Start
  rw [rin_eq h hm (by omega)]
  have := rst_l0 h 0 0 hw (by omega)
  simp only [Option.bind_some, bne_self_eq_false, Bool.false_eq_true, if_false]
  rw [up_len, chk_eq (by omega)]
  have e : ((0 : Nat) : Int) = 0 := rfl
  rw [e] at this
  rw [this]
  simp
theorem Dif.pre {a b s q c m m' e} (D : Dif a b s q c m m' e) : isT a = false → isT b = false → a.Attrs.length = b.Attrs.length → c.length = q.length + 1 ∧ (∃ t t', e = s + t ∧ At a q m t ∧ At b q m' t' ∧ isT m = false ∧ isT m' = false) ∧
    ∀ i, i ≤ q.length → ∃ x y t t', c[i]? = some (x, y, s + t) ∧ At a (q.take i) x t ∧ At b (q.take i) y t' ∧ isT x = false ∧ isT y = false ∧ x.Attrs.length = y.Attrs.length := by
  induction D with
  | stop a b s h =>
    intro ha hb hl
    refine ⟨rfl, ⟨0, 0, rfl, .nil _, .nil _, ha, hb⟩, fun i hi => ?_⟩
    simp only [List.length_nil, Nat.le_zero] at hi
    subst hi
    exact ⟨a, b, 0, 0, rfl, .nil _, .nil _, ha, hb, hl⟩
  | go a b s x y q c m m' e h1 h2 hx hy hal r ih =>
    intro ha hb hl
    obtain ⟨nx, ny⟩ := alD_nt hal
    obtain ⟨i1, ⟨t, t', i2, i3, i4, i5, i6⟩, i7⟩ := ih nx ny (alD_len hal)
    refine ⟨by simp [i1], ⟨_, _, ?_, .cons a (dh a b) x q m t hx ha nx i3, .cons b (dh a b) y q m' t' hy hb ny i4, i5, i6⟩, fun i hi => ?_⟩
    · omega
    · cases i with
      | zero => exact ⟨a, b, 0, 0, rfl, .nil _, .nil _, ha, hb, hl⟩
      | succ i =>
        obtain ⟨u, v, w, w', j1, j2, j3, j4, j5, j6⟩ := i7 i (by simpa using hi)
        refine ⟨u, v, nsizes (a.Kids.take (dh a b)) + 1 + w, _, ?_, .cons a (dh a b) x (q.take i) u w hx ha nx j2, .cons b (dh a b) y (q.take i) v w' hy hb ny j3, j4, j5, j6⟩
        rw [List.getElem?_cons_succ, j1]
        congr 3
        omega
def rS (x : step_Step) : diptychref11_Step := ⟨x.Kind, x.From, x.To, x.Nodes, x.Name, x.Value⟩
theorem steps_l2 (y : api_Node) (at' : Int) : ∀ (suf tb pb : List api_Attr) (i : Int) (v : List diptychref11_Step), y.Attrs = pb ++ tb → i = (pb.length : Int) → suf.length = tb.length → v.length + suf.length ≤ 1099511627776 → diptychref18_Steps_l2 y at' suf i v = some (v ++ (attP (w64 (at' - 1)) suf tb).map rS)
  | [], tb, pb, i, v, hb, hi, hs, _ => by simp [diptychref18_Steps_l2, attP]
  | x :: suf, [], pb, i, v, hb, hi, hs, _ => by simp at hs
  | x :: suf, z :: tb, pb, i, v, hb, hi, hs, hv => by
    simp only [List.length_cons] at hs hv
    have r : rd y.Attrs i = some z := by rw [hb, hi]; exact rd_mid _ _ _
    rw [diptychref18_Steps_l2, r]
    simp only [Option.bind_some]
    by_cases e : z.Value = x.Value
    · rw [if_neg (by simp [e]), steps_l2 y at' suf tb (pb ++ [z]) _ v (by simp [hb]) (by simp [hi]) (by omega) (by omega), attP, if_pos (by simp [e])]
    · rw [if_pos (by simp; exact fun h => e h.symm), app_eq (by simp; omega)]
      simp only [Option.bind_some]
      rw [steps_l2 y at' suf tb (pb ++ [z]) _ _ (by simp [hb]) (by simp [hi]) (by omega) (by simp; omega), attP, if_neg (by simp [e])]
      simp [rS]
theorem steps_l0 {a b q c m m' e} (D : Dif a b 0 q c m m' e) (ha : isT a = false) (hb : isT b = false) (hal : a.Attrs.length = b.Attrs.length) (hwa : nwt a ≤ 1048576) (hwb : nwt b ≤ 1048576) : ∀ (d i k : Nat) (out : List diptychref11_Step), q.length + 1 - i ≤ d → d < k → i ≤ q.length + 1 → out.length + (q.length + 1 - i) * 1048576 ≤ 1099511627776 → diptychref18_Steps_l0 a b (up q) k (i : Int) out = some (out ++ ((c.drop i).flatMap attC).map rS)
  | 0, i, k, out, hd, hk, hi, _ => by
    obtain ⟨k, rfl⟩ : ∃ j, k = j + 1 := ⟨k - 1, by omega⟩
    obtain ⟨c1, _, _⟩ := D.pre ha hb hal
    have g : decide ((i : Int) ≤ ((up q).length : Int)) = false := by rw [up_len]; simp; omega
    have e0 : c.drop i = [] := List.drop_of_length_le (by omega)
    rw [diptychref18_Steps_l0, g, e0]
    simp
  | d + 1, i, k, out, hd, hk, hi, ho => by
    obtain ⟨k, rfl⟩ : ∃ j, k = j + 1 := ⟨k - 1, by omega⟩
    obtain ⟨c1, ⟨t9, t9', z1, z2, _⟩, c2⟩ := D.pre ha hb hal
    rw [diptychref18_Steps_l0]
    by_cases hle : i ≤ q.length
    · have g : decide ((i : Int) ≤ ((up q).length : Int)) = true := by rw [up_len]; simp; omega
      obtain ⟨x, y, t, t', j1, j2, j3, j4, j5, j6⟩ := c2 i hle
      have hsl : sl (up q) 0 (i : Int) = some (up (q.take i)) := by
        rw [sl_take (by rw [up_len]; omega)]
        simp [up, List.map_take]
      have hlt : i < c.length := by omega
      have hql := z2.len
      have z3 := z2.sizes
      have z4 := nsizes_le' a.Kids
      have z5 := nwts_kids a
      have y1 := j2.sizes
      have hwx := j2.wt
      have wx := nwt_eq x
      have lx := attrsW_n x.Attrs
      have hap := attP_len ((t : Int) - 1) x.Attrs y.Attrs
      have hdc : c.drop i = (x, y, 0 + t) :: c.drop (i + 1) := by
        rw [List.drop_eq_getElem_cons hlt]
        rw [List.getElem?_eq_getElem hlt] at j1
        rw [Option.some.inj j1]
      rw [g]
      simp only [if_true, hsl, Option.bind_some]
      rw [rin_eq j2 j4 (by simp; omega)]
      simp only [Option.bind_some]
      rw [rin_eq j3 j5 (by simp; omega)]
      simp only [Option.bind_some]
      rw [rst_eq j2 j4 (by omega)]
      simp only [Option.bind_some]
      rw [chk_eq (by omega), steps_l2 y (t : Int) x.Attrs y.Attrs [] 0 out rfl rfl j6 (by omega)]
      simp only [Option.bind_some]
      have e1 : w64 ((i : Int) + 1) = ((i + 1 : Nat) : Int) := by rw [w64_eq (by omega)]; omega
      rw [e1, w64_eq (x := (t : Int) - 1) (by omega)]
      rw [steps_l0 D ha hb hal hwa hwb d (i + 1) k _ (by omega) (by omega) (by omega) (by rw [List.length_append, List.length_map]; omega), hdc]
      simp [attC]
    · have g : decide ((i : Int) ≤ ((up q).length : Int)) = false := by rw [up_len]; simp; omega
      have e0 : c.drop i = [] := List.drop_of_length_le (by omega)
      rw [g, e0]
      simp

end Go.Proofs.YtblielhogcnnkaaDoor
