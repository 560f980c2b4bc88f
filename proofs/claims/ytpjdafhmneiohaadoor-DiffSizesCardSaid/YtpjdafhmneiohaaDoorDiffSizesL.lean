/- DiffSizes, plainly. -/
import Derived.Test.YtpjdafhmneiohaaDoorDifSym
import Derived.Test.YtpjdafhmneiohaaDoorDiffShown
import Derived.Test.YtpjdafhmneiohaaDoorBookL
namespace Go.Proofs.YtpjdafhmneiohaaDoor
set_option linter.unusedSimpArgs false
set_option linter.unusedVariables false
open Go Classical

theorem sizes_l0 : ∀ (l rest : List step_Step) (i one : Int), (∀ x ∈ l, x.Kind = 97 ∧ x.Nodes = []) → ∃ j, diptychlaw18_DiffSizes_l0 (l ++ rest) i 0 one = diptychlaw18_DiffSizes_l0 rest j 0 one
  | [], rest, i, one, _ => ⟨i, rfl⟩
  | x :: l, rest, i, one, h => by
    obtain ⟨j, hj⟩ := sizes_l0 l rest (i + 1) one fun y hy => h y (by simp [hy])
    obtain ⟨k1, k2⟩ := h x (by simp)
    refine ⟨j, ?_⟩
    rw [List.cons_append, diptychlaw18_DiffSizes_l0]
    have h1 : step_MapOf x = some [] := by
      unfold step_MapOf
      rw [k2, total_eq [] (by simp [nwts]), k1]
      rfl
    have h2 : maps_Grows [] = some 0 := rfl
    rw [h1]
    simp only [Option.bind_some]
    rw [h2]
    simp only [Option.bind_some]
    rw [if_neg (by rw [k1]; decide), ← hj]
    rfl
theorem sizes_l1 : ∀ (l rest : List step_Step) (i two : Int), (∀ x ∈ l, x.Kind = 97 ∧ x.Nodes = []) → ∃ j, diptychlaw18_DiffSizes_l1 (l ++ rest) i two = diptychlaw18_DiffSizes_l1 rest j two
  | [], rest, i, two, _ => ⟨i, rfl⟩
  | x :: l, rest, i, two, h => by
    obtain ⟨j, hj⟩ := sizes_l1 l rest (i + 1) two fun y hy => h y (by simp [hy])
    obtain ⟨k1, k2⟩ := h x (by simp)
    refine ⟨j, ?_⟩
    rw [List.cons_append, diptychlaw18_DiffSizes_l1, if_neg (by rw [k1]; decide), ← hj]
theorem mapof_rep (f t : Nat) (l : List api_Node) (s : Nat) (hw : nwts l ≤ 1099511627776) (hf : f + s ≤ 1099511627776) (ht : t = f + s) : ∃ mp, step_MapOf ⟨114, (f : Int), (t : Int), l, [], []⟩ = some mp ∧ maps_Grows mp = some ((nsizes l : Int) - (s : Int)) := by
  have hs := nsizes_le' l
  have h0 : maps_Grows [] = some 0 := rfl
  have h1 : maps_Grows [⟨(f : Int), w64 ((t : Int) - (f : Int)), (nsizes l : Int)⟩] = some ((nsizes l : Int) - (s : Int)) := by
    unfold maps_Grows
    rw [chk_eq (by simp), maps_Grows_l0, maps_Grows_l0]
    simp only [Option.bind_some]
    rw [w64_eq (x := (t : Int) - (f : Int)) (by omega), w64_eq (x := (nsizes l : Int) - ((t : Int) - (f : Int))) (by omega), w64_eq (by omega), Option.some.injEq]
    omega
  unfold step_MapOf
  rw [total_eq l hw]
  simp only [Option.bind_some]
  rw [if_neg (by decide)]
  by_cases e : (f : Int) = (t : Int)
  · rw [if_pos (by simp [e])]
    by_cases e2 : (nsizes l : Int) = 0
    · rw [if_pos (by simp [e2])]
      refine ⟨_, rfl, ?_⟩
      rw [h0, Option.some.injEq]
      omega
    · rw [if_neg (by simpa using e2)]
      exact ⟨_, rfl, h1⟩
  · rw [if_neg (by simpa using e)]
    exact ⟨_, rfl, h1⟩

theorem nwts_part (l : List api_Node) (i j : Nat) : nwts ((l.take j).drop i) ≤ nwts l := by
  have h1 := nwts_app ((l.take j).take i) ((l.take j).drop i)
  rw [List.take_append_drop] at h1
  have h2 := take_wts l j
  omega
theorem mid_nil {l : List api_Node} {h k : Nat} (hk : k = 0) : (l.take (h + k)).drop h = [] := by
  subst hk
  rw [List.drop_eq_nil_iff]
  simp; omega

theorem DiffSizes_true (l m : List diptychlaw18_Cell) (hl : l.length ≤ 9223372036854775807) (hlc : ∀ y ∈ l, bcellIn y) (hm : m.length ≤ 9223372036854775807) (hmc : ∀ y ∈ m, bcellIn y) : diptychlaw18_DiffSizes l m = some true := by
  obtain ⟨ka, ea, ba⟩ := book_eq l hl hlc
  obtain ⟨kb, eb, bb⟩ := book_eq m hm hmc
  unfold diptychlaw18_DiffSizes
  rw [shown18_eq]
  simp only [Option.bind_some, Bool.not_true, Bool.false_eq_true, if_false]
  rw [ea]
  simp only [Option.bind_some]
  rw [eb]
  simp only [Option.bind_some]
  have ra := book_right ba
  have rb := book_right bb
  have ta : isT (⟨bDoc, [], [], [], ka⟩ : api_Node) = false := rfl
  have tb : isT (⟨bDoc, [], [], [], kb⟩ : api_Node) = false := rfl
  have wa : nwt (⟨bDoc, [], [], [], ka⟩ : api_Node) ≤ 2410 := by have := ba.wt; rw [nwt_eq]; simp only [strsW, attrsW, List.length_nil, List.length_cons]; omega
  have wb : nwt (⟨bDoc, [], [], [], kb⟩ : api_Node) ≤ 2410 := by have := bb.wt; rw [nwt_eq]; simp only [strsW, attrsW, List.length_nil, List.length_cons]; omega
  have hal : alD (⟨bDoc, [], [], [], ka⟩ : api_Node) ⟨bDoc, [], [], [], kb⟩ = true := by simp [alD, isT]
  have hla : alD (⟨bDoc, [], [], [], kb⟩ : api_Node) ⟨bDoc, [], [], [], ka⟩ = true := by rw [alD_symm]; exact hal
  generalize (⟨bDoc, [], [], [], ka⟩ : api_Node) = a at ra ta wa hal hla ⊢
  generalize (⟨bDoc, [], [], [], kb⟩ : api_Node) = b at rb tb wb hal hla ⊢
  obtain ⟨q, c, m1, m2, e, D⟩ := dif_ex (ndep a) a b 0 (Nat.le_refl _)
  have D' := D.symm
  rw [steps_prog D ra rb hal (by omega) (by omega)]
  simp only [Option.bind_some]
  rw [steps_prog D' rb ra hla (by omega) (by omega)]
  simp only [Option.bind_some]
  obtain ⟨w1, w2⟩ := D.attW
  obtain ⟨v1, v2⟩ := D'.attW
  have hg := D.grows ta tb
  have hsw := att_swap c
  obtain ⟨_, ⟨t, t', z1, z2, z3, _, _⟩, _⟩ := D.pre ta tb (alD_len hal)
  have z4 := z2.wt
  have z5 := z3.wt
  have x1 := nwts_kids m1
  have x2 := nwts_kids m2
  have sa := nsize_le a
  have sb := nsize_le b
  have z6 := z2.sizes
  have z7 := nsizes_le' a.Kids
  have z8 := nwts_kids a
  have pa := nwts_part m1.Kids (dh m1 m2) (dh m1 m2 + dm m1 m2)
  have pb := nwts_part m2.Kids (dh m1 m2) (dh m1 m2 + dn m1 m2)
  have qa := nsizes_le' (midA m1 m2)
  have qb := nsizes_le' (midB m1 m2)
  have th := take_sizes m1.Kids (dh m1 m2)
  have fin : w64 ((nsize b : Int) - (nsize a : Int)) = (nsizes (midB m1 m2) : Int) - (nsizes (midA m1 m2) : Int) := by rw [w64_eq (by omega)]; omega
  obtain ⟨j1, h1⟩ := sizes_l0 (c.flatMap attC) (repD m1 m2 e) 0 0 (att_kind c)
  obtain ⟨j2, h2⟩ := sizes_l1 ((c.map fun x => (x.2.1, x.1, x.2.2)).flatMap attC) (repD m2 m1 e) 0 0 (att_kind _)
  by_cases h0 : dm m1 m2 + dn m1 m2 = 0
  · have e1 : repD m1 m2 e = [] := if_pos h0
    have e2 : repD m2 m1 e = [] := if_pos (by rw [dm_symm m2 m1, dn_symm m2 m1]; omega)
    have e3 : midA m1 m2 = [] := mid_nil (by omega)
    have e4 : midB m1 m2 = [] := mid_nil (by omega)
    rw [e3, e4] at fin
    rw [e1] at h1 ⊢
    rw [e2] at h2 ⊢
    rw [chk_eq (by simp only [List.append_nil]; omega), h1, diptychlaw18_DiffSizes_l0]
    simp only [Option.bind_some]
    rw [chk_eq (by simp only [List.append_nil]; omega), h2, diptychlaw18_DiffSizes_l1]
    simp only [Option.bind_some, beq_self_eq_true, if_true, List.append_nil]
    rw [if_pos (by rw [hsw]; simp), if_pos (by decide), size_eq b (by omega), size_eq a (by omega)]
    simp only [Option.bind_some]
    rw [fin]
    rfl
  · have e1 : repD m1 m2 e = _ := if_neg h0
    have e2 : repD m2 m1 e = _ := if_neg (by rw [dm_symm m2 m1, dn_symm m2 m1]; omega)
    obtain ⟨mp, g1, g2⟩ := mapof_rep (e + nsizes (m1.Kids.take (dh m1 m2))) (e + nsizes (m1.Kids.take (dh m1 m2)) + nsizes (midA m1 m2)) (midB m1 m2) (nsizes (midA m1 m2)) (by unfold midB; omega) (by unfold midA at qa ⊢; omega) rfl
    rw [e1] at h1 ⊢
    rw [e2] at h2 ⊢
    unfold midA midB at g1
    rw [chk_eq (by simp only [List.length_append, List.length_cons, List.length_nil]; omega), h1, diptychlaw18_DiffSizes_l0, g1]
    simp only [Option.bind_some]
    rw [g2]
    simp only [Option.bind_some]
    rw [if_pos (by decide), diptychlaw18_DiffSizes_l0]
    simp only [Option.bind_some]
    rw [chk_eq (by simp only [List.length_append, List.length_cons, List.length_nil]; omega), h2, diptychlaw18_DiffSizes_l1]
    simp only [beq_self_eq_true, if_true]
    rw [diptychlaw18_DiffSizes_l1]
    simp only [Option.bind_some, beq_self_eq_true, if_true]
    rw [if_pos (by simp only [List.length_append, List.length_cons, List.length_nil]; rw [hsw]; simp), if_pos (by have : w64 (0 + 1) = 1 := rfl; rw [this]; rfl), size_eq b (by omega), size_eq a (by omega)]
    simp only [Option.bind_some]
    rw [fin, w64_eq (x := 0 + _) (by omega), Option.some.injEq, beq_iff_eq]
    omega

end Go.Proofs.YtpjdafhmneiohaaDoor
