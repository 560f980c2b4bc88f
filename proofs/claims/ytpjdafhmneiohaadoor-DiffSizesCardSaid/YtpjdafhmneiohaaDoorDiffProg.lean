/- The steps from one right node to another one that is alike: the program's answer. -/
import Derived.Test.YtpjdafhmneiohaaDoorDiffSpec4
namespace Go.Proofs.YtpjdafhmneiohaaDoor
set_option linter.unusedSimpArgs false
set_option linter.unusedVariables false
open Go Classical

theorem Dif.attW {a b s q c m m' e} (D : Dif a b s q c m m' e) : (c.flatMap attC).length ≤ nwt a ∧ q.length ≤ nwt a := by
  induction D with
  | stop a b s h =>
    have h1 := attP_len ((s : Int) - 1) a.Attrs b.Attrs
    have h2 := attrsW_n a.Attrs
    have h3 := nwt_eq a
    simp only [List.flatMap_cons, List.flatMap_nil, List.append_nil, attC, List.length_nil]
    omega
  | go a b s x y q c m m' e h1 h2 hx hy ha r ih =>
    have k1 := attP_len ((s : Int) - 1) a.Attrs b.Attrs
    have k2 := attrsW_n a.Attrs
    have k3 := nwt_eq a
    have k4 := nwt_mem (List.mem_of_getElem? hx)
    simp only [List.flatMap_cons, List.length_append, List.length_cons]
    have : (attC (a, b, s)).length ≤ a.Attrs.length := k1
    omega
/-- The step that puts what is left between. -/
noncomputable def repD (m m' : api_Node) (e : Nat) : List step_Step :=
  if dm m m' + dn m m' = 0 then [] else [⟨114, ((e + nsizes (m.Kids.take (dh m m')) : Nat) : Int), ((e + nsizes (m.Kids.take (dh m m')) + nsizes ((m.Kids.take (dh m m' + dm m m')).drop (dh m m')) : Nat) : Int), (m'.Kids.take (dh m m' + dn m m')).drop (dh m m'), [], []⟩]
theorem steps_prog {a b q c m m' e} (D : Dif a b 0 q c m m' e) (ha : checkN a = 0) (hb : checkN b = 0) (hal : alD a b = true) (hwa : nwt a ≤ 1048576) (hwb : nwt b ≤ 1048576) :
    diff_Steps a b = some (c.flatMap attC ++ repD m m' e, 0) := by
  obtain ⟨na, nb⟩ := alD_nt hal
  have hlen := alD_len hal
  obtain ⟨w1, w2⟩ := D.attW
  obtain ⟨c1, ⟨t, t', z1, z2, z3, nm, nm'⟩, _⟩ := D.pre na nb hlen
  have z4 := z2.len
  have z5 := z2.sizes
  have z6 := nsizes_le' a.Kids
  have z7 := nwts_kids a
  have z8 := z2.wt
  have z9 := z3.wt
  have x1 := nwts_kids m
  have x2 := nwts_kids m'
  have x3 := nwts_len m.Kids
  have x4 := nwts_len m'.Kids
  have x5 := dt_le m m'
  have x6 : dh m m' + dm m m' ≤ m.Kids.length := by unfold dm; omega
  have x7 : dh m m' + dn m m' ≤ m'.Kids.length := by unfold dn; omega
  have x8 := take_sizes m.Kids (dh m m')
  have x9 := take_wts m.Kids (dh m m')
  have wmid : ∀ (l : List api_Node) (i j : Nat), nwts ((l.take j).drop i) ≤ nwts l := fun l i j => by
    have h1 := nwts_app ((l.take j).take i) ((l.take j).drop i)
    rw [List.take_append_drop] at h1
    have h2 := take_wts l j
    omega
  have hw1 := wmid m.Kids (dh m m') (dh m m' + dm m m')
  have hw2 := wmid m'.Kids (dh m m') (dh m m' + dn m m')
  have hs1 := nsizes_le' ((m.Kids.take (dh m m' + dm m m')).drop (dh m m'))
  have hof : diff_of a b = some ⟨⟨m.Kind, m.Text, m.Marks, m.Attrs, m.Kids⟩, ⟨m'.Kind, m'.Text, m'.Marks, m'.Attrs, m'.Kids⟩, up q, (e : Int), ((dh m m' : Nat) : Int), ((dm m m' : Nat) : Int), ((dn m m' : Nat) : Int), c.flatMap attC⟩ := by
    unfold diff_of
    have h0 : ((0 : Nat) : Int) = 0 := rfl
    rw [lim_of (q.length + 1) fun k hk => by
      have := of_l0_eq D k 0 0 0 [] [] (by omega) (by omega) (by omega) (by omega) (by simp; omega) (by simp; omega) hlen
      rw [h0] at this
      exact this]
    simp only [Option.bind_some, List.nil_append]
    rfl
  have hsum : w64 (((dm m m' : Nat) : Int) + ((dn m m' : Nat) : Int)) = ((dm m m' + dn m m' : Nat) : Int) := by rw [w64_eq (by omega)]; omega
  have s1 : sl m.Kids 0 ((dh m m' : Nat) : Int) = some (m.Kids.take (dh m m')) := sl_take (by omega)
  have i1 : w64 (((dh m m' : Nat) : Int) + ((dm m m' : Nat) : Int)) = ((dh m m' + dm m m' : Nat) : Int) := by rw [w64_eq (by omega)]; omega
  have i2 : w64 (((dh m m' : Nat) : Int) + ((dn m m' : Nat) : Int)) = ((dh m m' + dn m m' : Nat) : Int) := by rw [w64_eq (by omega)]; omega
  have s2 : sl m.Kids ((dh m m' : Nat) : Int) ((dh m m' + dm m m' : Nat) : Int) = some ((m.Kids.take (dh m m' + dm m m')).drop (dh m m')) := sl_nat (by omega) x6
  have s3 : sl m'.Kids ((dh m m' : Nat) : Int) ((dh m m' + dn m m' : Nat) : Int) = some ((m'.Kids.take (dh m m' + dn m m')).drop (dh m m')) := sl_nat (by omega) x7
  have f1 : w64 ((e : Int) + (nsizes (m.Kids.take (dh m m')) : Int)) = ((e + nsizes (m.Kids.take (dh m m')) : Nat) : Int) := by rw [w64_eq (by omega)]; omega
  have f2 : w64 (((e + nsizes (m.Kids.take (dh m m')) : Nat) : Int) + (nsizes ((m.Kids.take (dh m m' + dm m m')).drop (dh m m')) : Int)) = ((e + nsizes (m.Kids.take (dh m m')) + nsizes ((m.Kids.take (dh m m' + dm m m')).drop (dh m m')) : Nat) : Int) := by rw [w64_eq (by omega)]; omega
  unfold diff_Steps
  rw [right_eq a (by omega), right_eq b (by omega), ha, hb]
  simp only [Option.bind_some, beq_self_eq_true, Bool.not_true, Bool.false_eq_true, if_false]
  have hlx := attrsW_n a.Attrs
  have hwx2 := nwt_eq a
  rw [alike_d a b (by omega), hal]
  simp only [Option.bind_some, Bool.not_true, Bool.false_eq_true, if_false]
  rw [hof]
  simp only [Option.bind_some, hsum]
  by_cases h0 : dm m m' + dn m m' = 0
  · rw [if_pos (by simp only [beq_iff_eq]; omega)]
    simp [repD, h0]
  · rw [if_neg (by simp only [beq_iff_eq]; omega), s1]
    simp only [Option.bind_some]
    rw [total_eq _ (by omega)]
    simp only [Option.bind_some, i1, i2]
    rw [s2]
    simp only [Option.bind_some]
    rw [total_eq _ (by omega)]
    simp only [Option.bind_some]
    rw [s3]
    simp only [Option.bind_some]
    rw [copy_eq _ (by rw [nwt_eq]; simp only [strsW, attrsW, List.length_nil]; omega)]
    simp only [Option.bind_some, f1, f2]
    rw [app_eq (by simp only [List.length_cons, List.length_nil]; omega), repD, if_neg h0]
    rfl
end Go.Proofs.YtpjdafhmneiohaaDoor
