/- The reference's Join joins. -/
import Derived.Test.YtpjdafhmneiohaaDoorNodeBase
namespace Go.Proofs.YtpjdafhmneiohaaDoor
set_option linter.unusedSimpArgs false
set_option linter.unusedVariables false
open Go

theorem join_l0 : ∀ (l : List api_Node) (i : Int) (o : List api_Node), nwts o + nwts l ≤ 1099511627776 → diptychref1_Join_l0 l i o = some (l.foldl joinStep o)
  | [], i, o, _ => by simp [diptychref1_Join_l0]
  | n :: l, i, o, hw => by
    simp only [nwts] at hw
    have hjw := joinStep_wt o n
    have ih := join_l0 l (i + 1) (joinStep o n) (by omega)
    have hol := nwts_len o
    rw [diptychref1_Join_l0, List.foldl_cons]
    have eapp : app 104 o [n] = some (o ++ [n]) := app_eq (by simp; omega)
    rcases snoc_cases o with rfl | ⟨o, x, rfl⟩
    · rw [joinStep_nil] at ih ⊢
      by_cases ht : isT n = true
      · have ht' : (n.Kind == sText) = true := ht
        by_cases he : n.Text = []
        · simp only [ht, he, Bool.true_and, beq_self_eq_true, if_true] at ih ⊢
          simp only [ht', if_true, Option.bind_some]
          exact ih
        · have he' : (n.Text == []) = false := by simp [he]
          simp only [ht, he', Bool.true_and, Bool.false_eq_true, if_false] at ih ⊢
          simp only [ht', he', Bool.false_eq_true, if_true, if_false, Option.bind_some, List.length_nil]
          have hneg : decide (w64 ((0 : Nat) - 1 : Int) ≥ 0) = false := by rw [w64_eq (by omega)]; simp
          simp only [hneg, Bool.false_eq_true, if_false, eapp, Option.bind_some]
          exact ih
      · have ht' : (n.Kind == sText) = false := by simpa [isT] using ht
        have ht2 : isT n = false := by simpa using ht
        simp only [ht2, Bool.false_and, Bool.false_eq_true, if_false] at ih ⊢
        simp only [ht', Bool.false_eq_true, if_false, Option.bind_some, eapp]
        exact ih
    · rw [joinStep_snoc] at ih ⊢
      have hx : rd (o ++ [x]) (w64 (((o ++ [x]).length : Int) - 1)) = some x := by
        rw [w64_eq (by simp at hol ⊢; omega)]
        have : ((o ++ [x]).length : Int) - 1 = (o.length : Int) := by simp
        rw [this]
        exact rd_mid o [] x
      have hsl : sl (o ++ [x]) 0 (w64 (((o ++ [x]).length : Int) - 1)) = some o := by
        rw [w64_eq (by simp at hol ⊢; omega)]
        have : ((o ++ [x]).length : Int) - 1 = (o.length : Int) := by simp
        rw [this]
        exact sl_pre o [x]
      have hpos : decide (w64 (((o ++ [x]).length : Int) - 1) ≥ 0) = true := by
        rw [w64_eq (by simp at hol ⊢; omega)]
        simp
      have hwx : nwt x ≤ nwts (o ++ [x]) := nwt_mem (by simp)
      have hx1 := nwt_eq x
      have hn1 := nwt_eq n
      by_cases ht : isT n = true
      · have ht' : (n.Kind == sText) = true := ht
        by_cases he : n.Text = []
        · simp only [ht, he, Bool.true_and, beq_self_eq_true, if_true] at ih ⊢
          simp only [ht', if_true, Option.bind_some]
          exact ih
        · have he' : (n.Text == []) = false := by simp [he]
          simp only [ht, he', Bool.true_and, Bool.false_eq_true, if_false] at ih ⊢
          simp only [ht', he', Bool.false_eq_true, if_true, if_false, Option.bind_some, hpos, hx]
          by_cases hxt : isT x = true
          · have hxt' : (x.Kind == sText) = true := hxt
            have hml : x.Marks.length ≤ 9223372036854775807 := by
              have : ∀ l : List Str, l.length ≤ strsW l := by
                intro l; induction l with
                | nil => simp
                | cons s l ih => simp [strsW]; omega
              have := this x.Marks
              omega
            simp only [hxt', if_true]
            rw [sameNames_eq _ _ hml]
            simp only [Option.bind_some, hxt, Bool.true_and] at ih ⊢
            by_cases hm : x.Marks = n.Marks
            · simp only [hm, decide_true, if_true] at ih ⊢
              rw [chk_eq (by omega), hsl]
              simp only [Option.bind_some]
              have hol2 := nwts_len (o ++ [x])
              simp only [List.length_append, List.length_cons, List.length_nil] at hol2
              rw [app_eq (by simp; omega)]
              simp only [Option.bind_some, List.nil_append]
              rw [app_eq (by simp; omega)]
              simp only [Option.bind_some]
              exact ih
            · simp only [hm, decide_false, Bool.false_eq_true, if_false] at ih ⊢
              rw [eapp]
              simp only [Option.bind_some, List.append_assoc, List.cons_append, List.nil_append]
              exact ih
          · have hxt' : (x.Kind == sText) = false := by simpa [isT] using hxt
            have hx2 : isT x = false := by simpa using hxt
            simp only [hx2, Bool.false_and, Bool.false_eq_true, if_false] at ih ⊢
            simp only [hxt', Bool.false_eq_true, if_false, eapp, Option.bind_some, List.append_assoc, List.cons_append, List.nil_append]
            exact ih
      · have ht' : (n.Kind == sText) = false := by simpa [isT] using ht
        have ht2 : isT n = false := by simpa using ht
        simp only [ht2, Bool.false_and, Bool.false_eq_true, if_false] at ih ⊢
        simp only [ht', Bool.false_eq_true, if_false, Option.bind_some, eapp, List.append_assoc, List.cons_append, List.nil_append]
        exact ih

theorem join_eq (l : List api_Node) (h : nwts l ≤ 1099511627776) : diptychref1_Join l = some (joinR l) := by
  have hl := nwts_len l
  unfold diptychref1_Join
  rw [chk_eq (by omega), join_l0 l 0 [] (by simpa [nwts] using h)]
  rfl

end Go.Proofs.YtpjdafhmneiohaaDoor
