/- PieceSplit, PieceSplits, plainly. -/
import Derived.Test.YtblielhogcnnkaaDoorPieceShown
namespace Go.Proofs.YtblielhogcnnkaaDoor
set_option linter.unusedSimpArgs false
set_option linter.unusedVariables false
open Go

theorem PieceSplit_true (l : List diptychlaw5_Cell) (at_ : Int) (hl : l.length ≤ 9223372036854775807) (h : ∀ y ∈ l, cellIn y) (ha : -9223372036854775808 ≤ at_ ∧ at_ ≤ 9223372036854775807) : diptychlaw5_PieceSplit l at_ = some true := by
  obtain ⟨ks, e1, e2⟩ := made_eq l hl h
  have hr : FRow ks := mn_row e2.mn e2.adj
  have hw := e2.wt
  have hs := nsizes_le' ks
  obtain ⟨p, p1, p2⟩ := pick_eq at_ ((nsizes ks : Int) + 1) ha (by omega)
  unfold diptychlaw5_PieceSplit
  rw [shown5_eq]
  simp only [Option.bind_some, Bool.not_true, Bool.false_eq_true, if_false]
  rw [e1]
  simp only [Option.bind_some]
  rw [total_eq ks (by omega)]
  simp only [Option.bind_some]
  rw [w64_eq (x := (nsizes ks : Int) + 1) (by omega), p1]
  simp only [Option.bind_some]
  rcases split_eq hr (by omega) p (by omega) with ⟨a, b, s1, ra, rb, s2, s3, s4, s5, _⟩ | ⟨s1, _⟩
  · rw [s1]
    have za : nsizes a = p := by rw [← szI_items]; exact s3
    have zb : nsizes a + nsizes b = nsizes ks := by rw [← szI_items, ← szI_items b, ← szI_items ks, s2, szI_app]
    have hab : ∀ x ∈ a ++ b, formB x = true := fun x hx => by
      rcases List.mem_append.1 hx with hx | hx
      · exact ra.form x hx
      · exact rb.form x hx
    obtain ⟨jr, ji⟩ := joinR_row hab
    have hj : joinR (a ++ b) = ks := frow_ext jr hr (by rw [ji, items_app, s2])
    have hla := nwts_len a
    have hlb := nwts_len b
    simp only [Option.bind_some, bne_self_eq_false, Bool.false_eq_true, if_false]
    rw [total_eq a (by omega)]
    simp only [Option.bind_some]
    have g1 : ((nsizes a : Int) == (p : Int)) = true := by simp; omega
    simp only [g1, if_true]
    rw [total_eq b (by omega)]
    simp only [Option.bind_some]
    rw [w64_eq (by omega)]
    have g2 : ((nsizes b : Int) == (nsizes ks : Int) - (p : Int)) = true := by simp; omega
    simp only [g2, if_true]
    rw [app_eq (by simp; omega)]
    simp only [Option.bind_some, List.nil_append]
    rw [app_eq (by omega)]
    simp only [Option.bind_some]
    rw [njoin_eq _ (by rw [nwts_app]; omega), hj]
    simp only [Option.bind_some]
    rw [rsameAll_eq ks (by omega)]
    rfl
  · rw [s1]
    rfl

theorem PieceSplits_true (l : List diptychlaw5_Cell) (from_ to_ : Int) (hl : l.length ≤ 9223372036854775807) (h : ∀ y ∈ l, cellIn y) (hf : -9223372036854775808 ≤ from_ ∧ from_ ≤ 9223372036854775807) (ht : -9223372036854775808 ≤ to_ ∧ to_ ≤ 9223372036854775807) : diptychlaw5_PieceSplits l from_ to_ = some true := by
  obtain ⟨ks, e1, e2⟩ := made_eq l hl h
  have hr : FRow ks := mn_row e2.mn e2.adj
  have hw := e2.wt
  have hs := nsizes_le' ks
  obtain ⟨p, p1, p2⟩ := pick_eq from_ ((nsizes ks : Int) + 1) hf (by omega)
  obtain ⟨q, q1, q2⟩ := pick_eq to_ ((nsizes ks : Int) + 1) ht (by omega)
  unfold diptychlaw5_PieceSplits
  rw [shown5_eq]
  simp only [Option.bind_some, Bool.not_true, Bool.false_eq_true, if_false]
  rw [e1]
  simp only [Option.bind_some]
  rw [total_eq ks (by omega)]
  simp only [Option.bind_some]
  rw [w64_eq (x := (nsizes ks : Int) + 1) (by omega), p1, q1]
  simp only [Option.bind_some, if_min, if_max]
  have hx : min p q ≤ nsizes ks := by omega
  have hy : max p q ≤ nsizes ks := by omega
  have hxy : min p q ≤ max p q := by omega
  generalize min p q = x at *
  generalize max p q = y at *
  rcases split_eq hr (by omega) x hx with ⟨a, b, s1, ra, rb, s2, s3, s4, s5, _⟩ | ⟨s1, _⟩
  · rcases split_eq hr (by omega) y hy with ⟨a', b', t1, ra', rb', t2, t3, t4, t5, _⟩ | ⟨t1, _⟩
    · rw [s1, t1]
      simp only [Option.bind_some, bne_self_eq_false, Bool.false_eq_true, if_false]
      obtain ⟨M, m1, m2⟩ := pre_le (by rw [← s2]; exact items_nod ks) (s2.symm.trans t2) (by omega)
      obtain ⟨A, B, u1, uA, uB, u2, u3, u4, u5, _⟩ := split_at rb (by omega) (X := M) (Y := items b') m2
      obtain ⟨C, D, v1, vC, vD, v2, v3, v4, v5, _⟩ := split_at ra' (by omega) (X := items a) (Y := M) m1
      have hM : (y : Int) - (x : Int) = (szI M : Int) := by
        have := congrArg szI m1
        rw [szI_app] at this
        omega
      have hMs : szI M ≤ nsizes ks := by
        have := congrArg szI m1
        rw [szI_app] at this
        omega
      rw [hM, w64_eq (by omega), u1]
      simp only [Option.bind_some]
      rw [s3] at v1
      rw [v1]
      simp only [Option.bind_some, beq_self_eq_true, if_true]
      have hC : C = a := frow_ext vC ra v2
      have hD : D = A := frow_ext vD uA (by rw [v3, u2])
      have hB : B = b' := frow_ext uB rb' u3
      subst hC; subst hD; subst hB
      rw [rsameAll_eq _ (by omega)]
      simp only [Option.bind_some, if_true]
      rw [rsameAll_eq _ (by omega)]
      simp only [Option.bind_some, if_true]
      rw [rsameAll_eq _ (by omega)]
      rfl
    · rw [s1, t1]
      rfl
  · rcases split_eq hr (by omega) y hy with ⟨a', b', t1, _⟩ | ⟨t1, _⟩
    · rw [s1, t1]
      rfl
    · rw [s1, t1]
      rfl

end Go.Proofs.YtblielhogcnnkaaDoor
