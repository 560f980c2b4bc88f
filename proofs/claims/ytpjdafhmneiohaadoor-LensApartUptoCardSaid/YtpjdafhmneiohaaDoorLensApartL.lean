/- LensApart, plainly. -/
import Derived.Test.YtpjdafhmneiohaaDoorLensShown
import Derived.Test.YtpjdafhmneiohaaDoorLensInj2
import Derived.Test.YtpjdafhmneiohaaDoorLensConv
import Derived.Test.YtpjdafhmneiohaaDoorLensWts
namespace Go.Proofs.YtpjdafhmneiohaaDoor
set_option linter.unusedSimpArgs false
set_option linter.unusedVariables false
open Go

theorem rLs_map : ∀ l : List lens_Lens, rLs l = l.map rL
  | [] => rfl
  | x :: l => by simp [rLs, rLs_map l]
theorem ff_iff {p : Prop} (h : ¬ p) : (false = true ↔ p) := by
  constructor
  · intro h'
    cases h'
  · intro h'
    exact (h h').elim
theorem same_l0 (b : lens_Lens) (f : lens_Lens → diptychref13_Lens → Option Bool) : ∀ (suf tb pb : List lens_Lens) (i : Int), b.Kids = pb ++ tb → i = (pb.length : Int) → suf.length = tb.length → (∀ k ∈ suf, ∀ m, ∃ r, f k (rL m) = some r ∧ (r = true ↔ k = m)) → diptychlaw13_sameLens_l0 (rL b) f suf i = some (.inr ()) ∧ suf = tb ∨ diptychlaw13_sameLens_l0 (rL b) f suf i = some (.inl false) ∧ suf ≠ tb
  | [], tb, pb, i, hb, hi, hl, _ => by
    have : tb = [] := List.eq_nil_of_length_eq_zero (by simpa using hl.symm)
    exact .inl ⟨rfl, this.symm⟩
  | y :: suf, [], pb, i, hb, hi, hl, _ => by simp at hl
  | y :: suf, x :: tb, pb, i, hb, hi, hl, h => by
    simp only [List.length_cons] at hl
    have r : rd (rL b).Kids i = some (rL x) := by
      rw [rL_eq]
      show rd (rLs b.Kids) i = _
      rw [rLs_map, hb, hi]
      exact rd_nat (by simp)
    obtain ⟨q, q1, q2⟩ := h y (by simp) x
    rw [diptychlaw13_sameLens_l0, r]
    simp only [Option.bind_some]
    rw [q1]
    simp only [Option.bind_some]
    cases q with
    | false =>
      refine .inr ⟨rfl, fun e => ?_⟩
      have := q2.2 (by injection e)
      cases this
    | true =>
      have e := q2.1 rfl
      simp only [Bool.not_true, Bool.false_eq_true, if_false]
      rcases same_l0 b f suf tb (pb ++ [x]) (i + 1) (by simp [hb]) (by simp [hi]) (by omega) (fun k hk => h k (by simp [hk])) with ⟨j1, j2⟩ | ⟨j1, j2⟩
      · exact .inl ⟨j1, by rw [e, j2]⟩
      · exact .inr ⟨j1, fun e' => j2 (by injection e')⟩
theorem same_k (a : lens_Lens) : lW a ≤ 1073741824 → ∀ kr, lD a ≤ kr → ∀ b, ∃ r, diptychlaw13_sameLens_k kr a (rL b) = some r ∧ (r = true ↔ a = b) := by
  induction a using lens_Lens.ind with
  | h a ih =>
    intro hw kr hk b
    have hd := lD_eq a
    have hwt := lW_eq a
    have hl := lWs_len a.Kids
    obtain ⟨kr, rfl⟩ : ∃ j, kr = j + 1 := ⟨kr - 1, by omega⟩
    rw [diptychlaw13_sameLens_k]
    have e1 : (rL b).Prim = rP b.Prim := rL_prim b
    have e2 : (rL b).Turned = b.Turned := by rw [rL_eq]
    have e3 : (rL b).Kids = rLs b.Kids := by rw [rL_eq]
    rw [e1, samePrim_eq _ _ (by omega)]
    simp only [Option.bind_some]
    by_cases hp : a.Prim = b.Prim
    · simp only [hp, decide_true, Bool.not_true, Bool.false_eq_true, if_false]
      rw [e2, e3, rLs_len]
      by_cases ht : a.Turned = b.Turned
      · rw [if_neg (by simp [ht])]
        by_cases hkl : a.Kids.length = b.Kids.length
        · rw [if_neg (by simp [hkl]), chk_eq (by omega)]
          rcases same_l0 b (diptychlaw13_sameLens_k kr) a.Kids b.Kids [] 0 rfl rfl hkl (fun k hkk m => ih k hkk (by have := lW_mem hkk; omega) kr (by have := lD_mem hkk; omega) m) with ⟨j1, j2⟩ | ⟨j1, j2⟩
          · rw [j1]
            exact ⟨true, rfl, ⟨fun _ => lens_ext hp ht j2, fun _ => rfl⟩⟩
          · rw [j1]
            exact ⟨false, rfl, ff_iff fun h => j2 (by rw [h])⟩
        · rw [if_pos (by simp; omega)]
          exact ⟨false, rfl, ff_iff fun h => hkl (by rw [h])⟩
      · rw [if_pos (by cases ha : a.Turned <;> cases hb : b.Turned <;> simp_all)]
        exact ⟨false, rfl, ff_iff fun h => ht (by rw [h])⟩
    · simp only [hp, decide_false, Bool.not_false, if_true]
      exact ⟨false, rfl, ff_iff fun h => hp (by rw [h])⟩
theorem sameLens_eq (a b : lens_Lens) (h : lW a ≤ 1073741824) : ∃ r, diptychlaw13_sameLens a (rL b) = some r ∧ (r = true ↔ a = b) := by
  obtain ⟨r, h1, h2⟩ := same_k a h (lD a) (Nat.le_refl _) b
  refine ⟨r, ?_, h2⟩
  unfold diptychlaw13_sameLens
  refine lim_of (lD a) fun kr hk => ?_
  obtain ⟨r', h3, h4⟩ := same_k a h kr hk b
  rw [h3]
  have : r' = r := by
    cases r <;> cases r' <;> simp_all
  rw [this]
theorem lright_form {l : lens_Lens} (h : lright l = true) : lform l = true := by
  unfold lright at h
  simp only [Bool.and_eq_true] at h
  exact h.2
theorem LensApart_true (a b : lens_Lens) (ha : lW a ≤ 1048576) (hb : lW b ≤ 1048576) : diptychlaw13_LensApart a b = some true := by
  unfold diptychlaw13_LensApart
  rw [shown13_eq]
  simp only [Option.bind_some, Bool.not_true, Bool.false_eq_true, if_false]
  obtain ⟨r, hr⟩ := light13 a (by omega)
  rw [hr]
  simp only [Option.bind_some]
  split
  · rfl
  · obtain ⟨r', hr'⟩ := light13 b (by omega)
    rw [hr']
    simp only [Option.bind_some]
    split
    · rfl
    · rw [lright_eq a (by omega)]
      simp only [Option.bind_some]
      cases ra : lright a with
      | false => rfl
      | true =>
        simp only [Bool.not_true, Bool.false_eq_true, if_false]
        rw [lright_eq b (by omega)]
        simp only [Option.bind_some]
        cases rb : lright b with
        | false => rfl
        | true =>
          have fa := lright_form ra
          have fb := lright_form rb
          have wi := linv_w a
          simp only [Bool.not_true, Bool.false_eq_true, if_false]
          rw [print_eq a (by omega), ra, if_pos rfl]
          simp only [Option.bind_some]
          rw [print_eq b (by omega), rb, if_pos rfl]
          simp only [Option.bind_some]
          rw [invert_eq a (by omega)]
          simp only [Option.bind_some]
          rw [print_eq (linv a) (by omega)]
          obtain ⟨q, q1, q2⟩ := sameLens_eq a b (by omega)
          have hq : ((ltext a == ltext b) == q) = true := by
            cases q with
            | true => rw [q2.1 rfl]; simp
            | false =>
              have : ¬ ltext a = ltext b := fun e => by
                have := q2.2 (ltext_inj fa fb e)
                cases this
              simp [this]
          cases ri : lright (linv a) with
          | false =>
            rw [if_neg (by simp)]
            simp only [Option.bind_some, bne_self_eq_false, Bool.false_eq_true, if_false]
            rw [asLens_eq b (by omega)]
            simp only [Option.bind_some]
            rw [q1]
            simp only [Option.bind_some, hq, bne_self_eq_false, Bool.false_eq_true, if_false, beq_self_eq_true, if_true]
            rw [lright_eq (linv a) (by omega), ri]
            rfl
          | true =>
            have hne : ¬ ltext (linv a) = ltext a := fun e => linv_ne a (ltext_inj (lright_form ri) fa e)
            rw [if_pos rfl]
            simp only [Option.bind_some, bne_self_eq_false, Bool.false_eq_true, if_false]
            rw [asLens_eq b (by omega)]
            simp only [Option.bind_some]
            rw [q1]
            simp only [Option.bind_some, hq, bne_self_eq_false, Bool.false_eq_true, if_false, beq_self_eq_true, if_true]
            rw [if_neg (by decide)]
            simp [hne]

end Go.Proofs.YtpjdafhmneiohaaDoor
