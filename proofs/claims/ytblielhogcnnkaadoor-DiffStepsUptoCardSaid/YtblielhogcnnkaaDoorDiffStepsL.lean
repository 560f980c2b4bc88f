/- DiffSteps, plainly. -/
import Derived.Test.YtblielhogcnnkaaDoorDiffSpec5
import Derived.Test.YtblielhogcnnkaaDoorLight
import Derived.Test.YtblielhogcnnkaaDoorWts
namespace Go.Proofs.YtblielhogcnnkaaDoor
set_option linter.unusedSimpArgs false
set_option linter.unusedVariables false
open Go Classical

theorem Dif.attW {a b s q c m m' e} (D : Dif a b s q c m m' e) : (c.flatMap attC).length ≤ nwt a ∧ q.length ≤ nwt a := by
  induction D with
  | stop a b s h =>
    have h1 := attP_len ((s : Int) - 1) a.Attrs b.Attrs
    have h2 := attrsW_n a.Attrs
    have h3 := nwt_eq a
    simp only [List.flatMap_cons, List.flatMap_nil, List.append_nil, attC, List.length_nil]
    omega
  | go a b s x y q c m m' e h1 h2 hx hy ha r ih =>
    have k1 := attP_len ((s : Int) - 1) a.Attrs b.Attrs
    have k2 := attrsW_n a.Attrs
    have k3 := nwt_eq a
    have k4 := nwt_mem (List.mem_of_getElem? hx)
    simp only [List.flatMap_cons, List.length_append, List.length_cons]
    have : (attC (a, b, s)).length ≤ a.Attrs.length := k1
    omega
/-- The step that puts what is left between. -/
noncomputable def repD (m m' : api_Node) (e : Nat) : List step_Step :=
  if dm m m' + dn m m' = 0 then [] else [⟨114, ((e + nsizes (m.Kids.take (dh m m')) : Nat) : Int), ((e + nsizes (m.Kids.take (dh m m')) + nsizes ((m.Kids.take (dh m m' + dm m m')).drop (dh m m')) : Nat) : Int), (m'.Kids.take (dh m m' + dn m m')).drop (dh m m'), [], []⟩]
theorem steps_both {a b q c m m' e} (D : Dif a b 0 q c m m' e) (ha : checkN a = 0) (hb : checkN b = 0) (hal : alD a b = true) (hwa : nwt a ≤ 1048576) (hwb : nwt b ≤ 1048576) :
    diff_Steps a b = some (c.flatMap attC ++ repD m m' e, 0) ∧ diptychref18_Steps a b = some ((c.flatMap attC ++ repD m m' e).map rS, 0) ∧ diff_Where a b = some (up q, ((dh m m' : Nat) : Int), ((dm m m' : Nat) : Int), ((dn m m' : Nat) : Int)) ∧ diptychref18_Where a b = some (up q, ((dh m m' : Nat) : Int), ((dm m m' : Nat) : Int), ((dn m m' : Nat) : Int)) := by
  obtain ⟨na, nb⟩ := alD_nt hal
  have hlen := alD_len hal
  obtain ⟨w1, w2⟩ := D.attW
  obtain ⟨c1, ⟨t, t', z1, z2, z3, nm, nm'⟩, _⟩ := D.pre na nb hlen
  have z4 := z2.len
  have z5 := z2.sizes
  have z6 := nsizes_le' a.Kids
  have z7 := nwts_kids a
  have z8 := z2.wt
  have z9 := z3.wt
  have x1 := nwts_kids m
  have x2 := nwts_kids m'
  have x3 := nwts_len m.Kids
  have x4 := nwts_len m'.Kids
  have x5 := dt_le m m'
  have x6 : dh m m' + dm m m' ≤ m.Kids.length := by unfold dm; omega
  have x7 : dh m m' + dn m m' ≤ m'.Kids.length := by unfold dn; omega
  have x8 := take_sizes m.Kids (dh m m')
  have x9 := take_wts m.Kids (dh m m')
  have wmid : ∀ (l : List api_Node) (i j : Nat), nwts ((l.take j).drop i) ≤ nwts l := fun l i j => by
    have h1 := nwts_app ((l.take j).take i) ((l.take j).drop i)
    rw [List.take_append_drop] at h1
    have h2 := take_wts l j
    omega
  have hw1 := wmid m.Kids (dh m m') (dh m m' + dm m m')
  have hw2 := wmid m'.Kids (dh m m') (dh m m' + dn m m')
  have hs1 := nsizes_le' ((m.Kids.take (dh m m' + dm m m')).drop (dh m m'))
  have hof : diff_of a b = some ⟨⟨m.Kind, m.Text, m.Marks, m.Attrs, m.Kids⟩, ⟨m'.Kind, m'.Text, m'.Marks, m'.Attrs, m'.Kids⟩, up q, (e : Int), ((dh m m' : Nat) : Int), ((dm m m' : Nat) : Int), ((dn m m' : Nat) : Int), c.flatMap attC⟩ := by
    unfold diff_of
    have h0 : ((0 : Nat) : Int) = 0 := rfl
    rw [lim_of (q.length + 1) fun k hk => by
      have := of_l0_eq D k 0 0 0 [] [] (by omega) (by omega) (by omega) (by omega) (by simp; omega) (by simp; omega) hlen
      rw [h0] at this
      exact this]
    simp only [Option.bind_some, List.nil_append]
    rfl
  have hwh : diptychref18_Where a b = some (up q, ((dh m m' : Nat) : Int), ((dm m m' : Nat) : Int), ((dn m m' : Nat) : Int)) := by
    unfold diptychref18_Where
    exact lim_of (q.length + 1) fun k hk => where_k D k (by omega) (by omega) (by omega)
  have hsum : w64 (((dm m m' : Nat) : Int) + ((dn m m' : Nat) : Int)) = ((dm m m' + dn m m' : Nat) : Int) := by rw [w64_eq (by omega)]; omega
  have s1 : sl m.Kids 0 ((dh m m' : Nat) : Int) = some (m.Kids.take (dh m m')) := sl_take (by omega)
  have i1 : w64 (((dh m m' : Nat) : Int) + ((dm m m' : Nat) : Int)) = ((dh m m' + dm m m' : Nat) : Int) := by rw [w64_eq (by omega)]; omega
  have i2 : w64 (((dh m m' : Nat) : Int) + ((dn m m' : Nat) : Int)) = ((dh m m' + dn m m' : Nat) : Int) := by rw [w64_eq (by omega)]; omega
  have s2 : sl m.Kids ((dh m m' : Nat) : Int) ((dh m m' + dm m m' : Nat) : Int) = some ((m.Kids.take (dh m m' + dm m m')).drop (dh m m')) := sl_nat (by omega) x6
  have s3 : sl m'.Kids ((dh m m' : Nat) : Int) ((dh m m' + dn m m' : Nat) : Int) = some ((m'.Kids.take (dh m m' + dn m m')).drop (dh m m')) := sl_nat (by omega) x7
  have f1 : w64 ((e : Int) + (nsizes (m.Kids.take (dh m m')) : Int)) = ((e + nsizes (m.Kids.take (dh m m')) : Nat) : Int) := by rw [w64_eq (by omega)]; omega
  have f2 : w64 (((e + nsizes (m.Kids.take (dh m m')) : Nat) : Int) + (nsizes ((m.Kids.take (dh m m' + dm m m')).drop (dh m m')) : Int)) = ((e + nsizes (m.Kids.take (dh m m')) + nsizes ((m.Kids.take (dh m m' + dm m m')).drop (dh m m')) : Nat) : Int) := by rw [w64_eq (by omega)]; omega
  refine ⟨?_, ?_, ?_, hwh⟩
  · unfold diff_Steps
    rw [right_eq a (by omega), right_eq b (by omega), ha, hb]
    simp only [Option.bind_some, beq_self_eq_true, Bool.not_true, Bool.false_eq_true, if_false]
    have hlx := attrsW_n a.Attrs
    have hwx2 := nwt_eq a
    rw [alike_d a b (by omega), hal]
    simp only [Option.bind_some, Bool.not_true, Bool.false_eq_true, if_false]
    rw [hof]
    simp only [Option.bind_some, hsum]
    by_cases h0 : dm m m' + dn m m' = 0
    · rw [if_pos (by simp only [beq_iff_eq]; omega)]
      simp [repD, h0]
    · rw [if_neg (by simp only [beq_iff_eq]; omega), s1]
      simp only [Option.bind_some]
      rw [total_eq _ (by omega)]
      simp only [Option.bind_some, i1, i2]
      rw [s2]
      simp only [Option.bind_some]
      rw [total_eq _ (by omega)]
      simp only [Option.bind_some]
      rw [s3]
      simp only [Option.bind_some]
      rw [copy_eq _ (by rw [nwt_eq]; simp only [strsW, attrsW, List.length_nil]; omega)]
      simp only [Option.bind_some, f1, f2]
      rw [app_eq (by simp only [List.length_cons, List.length_nil]; omega), repD, if_neg h0]
      rfl
  · unfold diptychref18_Steps
    rw [rcheck_eq a (by omega), rcheck_eq b (by omega), ha, hb]
    simp only [Option.bind_some, bne_self_eq_false, Bool.false_eq_true, if_false]
    have hlx := attrsW_n a.Attrs
    have hwx2 := nwt_eq a
    rw [ralike_d a b (by omega), hal]
    simp only [Option.bind_some, Bool.not_true, Bool.false_eq_true, if_false]
    rw [hwh]
    simp only [Option.bind_some]
    have h0' : ((0 : Nat) : Int) = 0 := rfl
    rw [lim_of (q.length + 2) fun k hk => by
      have := steps_l0 D na nb hlen hwa hwb (q.length + 1) 0 k [] (by omega) (by omega) (by omega) (by simp; omega)
      rw [h0'] at this
      exact this]
    simp only [Option.bind_some, hsum, List.nil_append, List.drop_zero]
    by_cases h0 : dm m m' + dn m m' = 0
    · rw [if_pos (by simp only [beq_iff_eq]; omega)]
      simp [repD, h0]
    · rw [if_neg (by simp only [beq_iff_eq]; omega), rin_eq z2 nm (by omega)]
      simp only [Option.bind_some]
      rw [rin_eq z3 nm' (by omega)]
      simp only [Option.bind_some]
      rw [rst_eq z2 nm (by omega)]
      simp only [Option.bind_some]
      rw [s1]
      simp only [Option.bind_some]
      rw [rtot_eq _ (by omega)]
      simp only [Option.bind_some, i1, i2]
      rw [s2]
      simp only [Option.bind_some]
      rw [rtot_eq _ (by omega)]
      simp only [Option.bind_some]
      rw [s3]
      simp only [Option.bind_some]
      have et : (t : Int) = (e : Int) := by omega
      rw [et]
      simp only [f1, f2]
      rw [app_eq (by simp only [List.length_cons, List.length_nil, List.length_map]; omega), repD, if_neg h0, List.map_append]
      rfl
  · unfold diff_Where
    rw [hof]
    rfl

theorem sameSteps_l0 : ∀ (suf pre : List step_Step) (i : Int), i = (pre.length : Int) → (∀ x ∈ suf, nwts x.Nodes ≤ 1099511627776) → diptychlaw18_sameSteps_l0 ((pre ++ suf).map rS) suf i = some (.inr ())
  | [], pre, i, _, _ => rfl
  | y :: suf, pre, i, hi, hw => by
    have r : rd ((pre ++ y :: suf).map rS) i = some (rS y) := by
      rw [hi]
      exact rd_nat (by simp)
    rw [diptychlaw18_sameSteps_l0, r]
    simp only [Option.bind_some]
    have hs : diptychlaw18_sameStep y (rS y) = some true := by
      unfold diptychlaw18_sameStep rS
      simp only [beq_self_eq_true, if_true]
      rw [rsameAll_eq _ (hw y (by simp))]
      simp
    rw [hs]
    simp only [Option.bind_some, Bool.not_true, Bool.false_eq_true, if_false]
    have := sameSteps_l0 suf (pre ++ [y]) (i + 1) (by simp [hi]) fun x hx => hw x (by simp [hx])
    simpa using this
theorem sameSteps_eq (l : List step_Step) (hl : l.length ≤ 9223372036854775807) (hw : ∀ x ∈ l, nwts x.Nodes ≤ 1099511627776) : diptychlaw18_sameSteps l (l.map rS) = some true := by
  unfold diptychlaw18_sameSteps
  have := sameSteps_l0 l [] 0 rfl hw
  simp only [List.nil_append] at this
  rw [if_neg (by simp), chk_eq hl, this]
  rfl
theorem same18_l0 : ∀ (suf pre : List Int) (i : Int), i = (pre.length : Int) → diptychlaw18_same_l0 (pre ++ suf) suf i = some (.inr ())
  | [], pre, i, _ => rfl
  | y :: suf, pre, i, hi => by
    have r : rd (pre ++ y :: suf) i = some y := by rw [hi]; exact rd_mid _ _ _
    rw [diptychlaw18_same_l0, r]
    simp only [Option.bind_some, bne_self_eq_false, Bool.false_eq_true, if_false]
    have := same18_l0 suf (pre ++ [y]) (i + 1) (by simp [hi])
    simpa using this
theorem same18_eq (l : List Int) (hl : l.length ≤ 9223372036854775807) : diptychlaw18_same l l = some true := by
  unfold diptychlaw18_same
  have := same18_l0 l [] 0 rfl
  simp only [List.nil_append] at this
  rw [if_neg (by simp), chk_eq hl, this]
  rfl

/-! ### Chapter 18's example -/
abbrev exA : api_Node := ⟨[100, 111, 99], [], [], [], [⟨[112], [], [], [], [⟨sText, [104, 105], [], [], []⟩]⟩, ⟨[113], [], [], [], []⟩]⟩
abbrev exB : api_Node := ⟨[100, 111, 99], [], [], [], [⟨[112], [], [], [], [⟨sText, [104, 111], [], [], []⟩]⟩, ⟨[113], [], [], [], []⟩]⟩
abbrev exP (t : Str) : api_Node := ⟨[112], [], [], [], [⟨sText, t, [], [], []⟩]⟩
theorem shown18_eq : diptychlaw18_shown = some true := by
  have c1 : dh exA exB = 0 := by simp [dh, cH]
  have c2 : dt exA exB = 1 := by simp [dt, cT, c1, cH]
  have c3 : dh (exP [104, 105]) (exP [104, 111]) = 0 := by simp [dh, cH]
  have c4 : dt (exP [104, 105]) (exP [104, 111]) = 0 := by simp [dt, cT, cH]
  have m1 : dm exA exB = 1 := by simp [dm, c1, c2]
  have n1 : dn exA exB = 1 := by simp [dn, c1, c2]
  have m2 : dm (exP [104, 105]) (exP [104, 111]) = 1 := by simp [dm, c3, c4]
  have n2 : dn (exP [104, 105]) (exP [104, 111]) = 1 := by simp [dn, c3, c4]
  have D2 : Dif (exP [104, 105]) (exP [104, 111]) (0 + nsizes (exA.Kids.take (dh exA exB)) + 1) [] [(exP [104, 105], exP [104, 111], 0 + nsizes (exA.Kids.take (dh exA exB)) + 1)] (exP [104, 105]) (exP [104, 111]) (0 + nsizes (exA.Kids.take (dh exA exB)) + 1) := by
    refine .stop _ _ _ fun ⟨_, _, h⟩ => ?_
    have := h ⟨sText, [104, 105], [], [], []⟩ ⟨sText, [104, 111], [], [], []⟩ (by rw [c3]; rfl) (by rw [c3]; rfl)
    exact absurd this (by decide)
  have D1 := Dif.go exA exB 0 (exP [104, 105]) (exP [104, 111]) _ _ _ _ _ m1 n1 (by rw [c1]; rfl) (by rw [c1]; rfl) (by decide) D2
  obtain ⟨h, _⟩ := steps_both D1 (by decide +kernel) (by decide +kernel) (by decide) (by decide +kernel) (by decide +kernel)
  have hr : repD (exP [104, 105]) (exP [104, 111]) (0 + nsizes (exA.Kids.take (dh exA exB)) + 1) = [⟨114, 1, 3, [⟨sText, [104, 111], [], [], []⟩], [], []⟩] := by
    have z : nsizes (exA.Kids.take (dh exA exB)) = 0 := by rw [c1]; rfl
    have z2 : nsizes ([⟨sText, [104, 105], [], [], []⟩] : List api_Node) = 2 := by decide +kernel
    unfold repD
    rw [m2, n2, c3, z]
    simp [z2, nsizes]
  rw [hr] at h
  simp only [attC, attP, List.flatMap_cons, List.flatMap_nil, List.nil_append] at h
  unfold diptychlaw18_shown
  rw [h]
  rfl
theorem DiffSteps_true (a b : api_Node) (hwa : nwt a ≤ 1048576) (hwb : nwt b ≤ 1048576) : diptychlaw18_DiffSteps a b = some true := by
  unfold diptychlaw18_DiffSteps
  rw [shown18_eq]
  simp only [Option.bind_some, Bool.not_true, Bool.false_eq_true, if_false]
  rw [light_eq a (by omega)]
  simp only [Option.bind_some]
  split
  · rfl
  · rw [light_eq b (by omega)]
    simp only [Option.bind_some]
    split
    · rfl
    · have hla := attrsW_n a.Attrs
      have hwa2 := nwt_eq a
      have none_ : diff_Steps a b = some ([], 1) → diptychref18_Steps a b = some ([], 1) → ((diff_Steps a b).bind fun (r_6, r_7) => (diptychref18_Steps a b).bind fun (r_8, r_9) => (diptychlaw18_sameSteps r_6 r_8).bind fun samest_10 => if (!samest_10) = true then some false else if (r_7 != r_9) = true then some false else if (r_7 != (0 : Int)) = true then some true else
          (diff_Where a b).bind fun (r_11, r_12, r_13, r_14) => (diptychref18_Where a b).bind fun (r_15, r_16, r_17, r_18) => (diptychlaw18_same r_11 r_15).bind fun same_19 => if (same_19) = true then (if (r_12 == r_16) = true then (if (r_13 == r_17) = true then some (r_14 == r_18) else some false) else some false) else some false) = some true := by
        intro e1 e2
        rw [e1, e2]
        rfl
      by_cases ha : checkN a = 0
      · by_cases hb : checkN b = 0
        · cases hal : alD a b with
          | true =>
            obtain ⟨q, c, m, m', e, D⟩ := dif_ex (ndep a) a b 0 (Nat.le_refl _)
            obtain ⟨s1, s2, s3, s4⟩ := steps_both D ha hb hal hwa hwb
            obtain ⟨w1, w2⟩ := D.attW
            obtain ⟨na, nb⟩ := alD_nt hal
            obtain ⟨_, ⟨t, t', z1, z2, z3, _, _⟩, _⟩ := D.pre na nb (alD_len hal)
            have z9 := z3.wt
            have x2 := nwts_kids m'
            have hnod : ∀ x ∈ c.flatMap attC ++ repD m m' e, nwts x.Nodes ≤ 1099511627776 := by
              have hatt : ∀ (f : Int) (l r : List api_Attr), ∀ x ∈ attP f l r, x.Nodes = [] := by
                intro f l
                induction l with
                | nil => intro r x hx; simp [attP] at hx
                | cons y l ih =>
                  intro r x hx
                  cases r with
                  | nil => simp [attP] at hx
                  | cons z r =>
                    rw [attP] at hx
                    split at hx
                    · exact ih r x hx
                    · rcases List.mem_cons.1 hx with rfl | hx
                      · rfl
                      · exact ih r x hx
              intro x hx
              rcases List.mem_append.1 hx with hx | hx
              · obtain ⟨y, _, hy⟩ := List.mem_flatMap.1 hx
                rw [hatt _ _ _ x hy]
                simp [nwts]
              · unfold repD at hx
                split at hx
                · cases hx
                · simp only [List.mem_singleton] at hx
                  rw [hx]
                  have h1 := nwts_app ((m'.Kids.take (dh m m' + dn m m')).take (dh m m')) ((m'.Kids.take (dh m m' + dn m m')).drop (dh m m'))
                  rw [List.take_append_drop] at h1
                  have h2 := nwts_app (m'.Kids.take (dh m m' + dn m m')) (m'.Kids.drop (dh m m' + dn m m'))
                  rw [List.take_append_drop] at h2
                  show nwts ((m'.Kids.take (dh m m' + dn m m')).drop (dh m m')) ≤ _
                  omega
            have hrl : (repD m m' e).length ≤ 1 := by unfold repD; split <;> simp
            rw [s1, s2]
            simp only [Option.bind_some]
            rw [sameSteps_eq _ (by rw [List.length_append]; omega) hnod]
            simp only [Option.bind_some, Bool.not_true, Bool.false_eq_true, if_false, bne_self_eq_false]
            rw [s3, s4]
            simp only [Option.bind_some]
            rw [same18_eq _ (by rw [up_len]; omega)]
            simp
          | false =>
            refine none_ ?_ ?_
            · unfold diff_Steps
              rw [right_eq a (by omega), right_eq b (by omega), ha, hb, alike_d a b (by omega), hal]
              rfl
            · unfold diptychref18_Steps
              rw [rcheck_eq a (by omega), rcheck_eq b (by omega), ha, hb, ralike_d a b (by omega), hal]
              rfl
        · refine none_ ?_ ?_
          · unfold diff_Steps
            rw [right_eq a (by omega), right_eq b (by omega), ha]
            have : (checkN b == 0) = false := by simpa using hb
            rw [this]
            rfl
          · unfold diptychref18_Steps
            rw [rcheck_eq a (by omega), rcheck_eq b (by omega), ha]
            have : (checkN b != 0) = true := by simpa using hb
            simp only [Option.bind_some, bne_self_eq_false, Bool.false_eq_true, if_false, this, if_true]
      · refine none_ ?_ ?_
        · unfold diff_Steps
          rw [right_eq a (by omega)]
          have : (checkN a == 0) = false := by simpa using ha
          rw [this]
          rfl
        · unfold diptychref18_Steps
          rw [rcheck_eq a (by omega)]
          have : (checkN a != 0) = true := by simpa using ha
          simp only [Option.bind_some, this, if_true]

end Go.Proofs.YtblielhogcnnkaaDoor
