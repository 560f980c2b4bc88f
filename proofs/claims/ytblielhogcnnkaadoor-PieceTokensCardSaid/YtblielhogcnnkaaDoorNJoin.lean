/- node.Join joins. -/
import Derived.Test.YtblielhogcnnkaaDoorForm
namespace Go.Proofs.YtblielhogcnnkaaDoor
set_option linter.unusedSimpArgs false
set_option linter.unusedVariables false
open Go

theorem wr_last {α : Type} (o : List α) (x y : α) : wr (o ++ [x]) (o.length : Int) y = some (o ++ [y]) := by
  unfold wr
  rw [if_pos (by simp; omega)]
  simp
theorem njoin_l0 : ∀ (l : List api_Node) (i : Int) (o : List api_Node), nwts o + nwts l ≤ 1099511627776 → node_Join_l0 l i o = some (l.foldl joinStep o)
  | [], i, o, _ => by simp [node_Join_l0]
  | n :: l, i, o, hw => by
    simp only [nwts] at hw
    have hjw := joinStep_wt o n
    have ih := njoin_l0 l (i + 1) (joinStep o n) (by omega)
    have hol := nwts_len o
    have eapp : app 104 o [n] = some (o ++ [n]) := app_eq (by simp; omega)
    rw [node_Join_l0, List.foldl_cons, isText_eq]
    simp only [Option.bind_some]
    rcases snoc_cases o with rfl | ⟨o, x, rfl⟩
    · rw [joinStep_nil] at ih ⊢
      have hneg : decide (w64 ((([] : List api_Node).length : Int) - 1) ≥ 0) = false := by rw [w64_eq (by simp)]; simp
      by_cases ht : isT n = true
      · by_cases he : n.Text = []
        · simp only [ht, he, Bool.true_and, beq_self_eq_true, if_true] at ih ⊢
          exact ih
        · have he' : (n.Text == []) = false := by simp [he]
          simp only [ht, he', Bool.true_and, Bool.false_eq_true, if_false] at ih ⊢
          simp only [if_true, hneg, Bool.false_eq_true, if_false, eapp, Option.bind_some]
          exact ih
      · have ht2 : isT n = false := by simpa using ht
        simp only [ht2, Bool.false_and, Bool.false_eq_true, if_false] at ih ⊢
        simp only [hneg, Bool.false_eq_true, if_false, eapp, Option.bind_some]
        exact ih
    · rw [joinStep_snoc] at ih ⊢
      have hw1 : w64 (((o ++ [x]).length : Int) - 1) = (o.length : Int) := by
        rw [w64_eq (by simp at hol ⊢; omega)]
        simp
      have hx : rd (o ++ [x]) (o.length : Int) = some x := rd_mid o [] x
      have hpos : decide ((o.length : Int) ≥ 0) = true := by simp
      have hwx : nwt x ≤ nwts (o ++ [x]) := nwt_mem (by simp)
      have hx1 := nwt_eq x
      have hn1 := nwt_eq n
      have hxm := strsW_n x.Marks
      have hal : alikeB x n = (isT n && isT x && decide (x.Marks = n.Marks)) := by unfold alikeB; rw [Bool.and_comm (isT x)]
      rw [hw1, hx]
      simp only [hpos, if_true, Option.bind_some]
      rw [alike_eq x n (by omega), wr_last]
      simp only [Option.bind_some, hal]
      by_cases ht : isT n = true
      · by_cases he : n.Text = []
        · simp only [ht, he, Bool.true_and, beq_self_eq_true, if_true] at ih ⊢
          exact ih
        · have he' : (n.Text == []) = false := by simp [he]
          simp only [ht, he', Bool.true_and, Bool.false_eq_true, if_false, if_true] at ih ⊢
          cases hc : (isT x && decide (x.Marks = n.Marks)) with
          | true =>
            simp only [hc, if_true] at ih ⊢
            rw [chk_eq (by omega)]
            exact ih
          | false =>
            simp only [hc, Bool.false_eq_true, if_false] at ih ⊢
            rw [eapp]
            simp only [Option.bind_some, List.append_assoc, List.cons_append, List.nil_append]
            exact ih
      · have ht2 : isT n = false := by simpa using ht
        simp only [ht2, Bool.false_and, Bool.false_eq_true, if_false] at ih ⊢
        rw [eapp]
        simp only [Option.bind_some, List.append_assoc, List.cons_append, List.nil_append]
        exact ih
theorem njoin_eq (l : List api_Node) (h : nwts l ≤ 1099511627776) : node_Join l = some (joinR l) := by
  have hl := nwts_len l
  unfold node_Join
  rw [chk_eq (by omega), njoin_l0 l 0 [] (by simpa [nwts] using h)]
  rfl

end Go.Proofs.YtblielhogcnnkaaDoor
