/- What the functions answer, the program answers (7). -/
import Derived.Test.YtblielhogcnnkaaDoorAgC
import Derived.Test.YtblielhogcnnkaaDoorAgF
import Derived.Test.YtblielhogcnnkaaDoorAgK0
import Derived.Test.YtblielhogcnnkaaDoorAgK1
import Derived.Test.YtblielhogcnnkaaDoorAgK2
import Derived.Test.YtblielhogcnnkaaDoorAgK3
import Derived.Test.YtblielhogcnnkaaDoorAgK5
import Derived.Test.YtblielhogcnnkaaDoorAgK6
namespace Go.Proofs.YtblielhogcnnkaaDoor
set_option linter.unusedSimpArgs false
set_option linter.unusedVariables false
open Go
set_option maxRecDepth 100000

theorem diptychlaw5_PieceBack_ok (l_1 : (List diptychlaw5_Cell)) (from_2 : Int) (to_3 : Int) (R : Bool) (hh : diptychlaw5_PieceBack l_1 from_2 to_3 = some R) : PC Tryd.prog 10 [.list 3 (l_1.map diptychlaw5_Cell.pv), .int .i64 from_2, .int .i64 to_3] (.bool R) := by
  rw [diptychlaw5_PieceBack] at hh
  refine start_diptychlaw5_PieceBack rfl ?_
  refine awp_first fun K kk hK => ?_
  simp only [go_sem]
  refine hK _ _ fun nx => ?_; clear hK K; try clear kk
  obtain ⟨shown_4, h1, hh⟩ := bind_ex hh
  refine awp_first fun K kk hK => ?_
  simp only [go_sem]
  refine step_call2 (diptychlaw5_shown_ok _ h1) (by (try simp only [go_sem]) <;> exact wkl) (by rfl) (by rfl) ?_
  simp only [go_sem]
  refine hK _ _ fun nx => ?_; clear hK K; try clear kk
  refine awp_seq ?_
  refine awp_first fun K kk hK => ?_
  simp only [go_sem]
  refine hK _ _ fun nx => ?_; clear hK K; try clear kk
  by_cases h2 : (!shown_4) = true
  · rw [if_pos h2] at hh
    refine awp_true (by first | exact congrArg PV.bool h2 | rfl) ?_
    refine awp_first fun K kk hK => ?_
    simp only [go_sem]
    refine hK _ _ fun nx => ?_; clear hK K; try clear kk
    refine awp_ret ?_; refine nmx ?_
    obtain hR := Option.some.inj hh
    subst hR
    exact ret_p2
  · rw [if_neg h2] at hh
    replace h2 := Bool.eq_false_iff.mpr h2
    refine awp_false (by first | exact congrArg PV.bool h2 | rfl) ?_
    refine awp_skip ?_; refine nmx ?_
    obtain ⟨doc_5, h3, hh⟩ := bind_ex hh
    refine awp_first fun K kk hK => ?_
    simp only [go_sem]
    refine step_call2 (diptychlaw5_doc_ok _ _ h3) (by (try simp only [go_sem]) <;> exact wkl) (by rfl) (by rfl) ?_
    simp only [go_sem]
    refine hK _ _ fun nx => ?_; clear hK K; try clear kk
    obtain ⟨⟨r_6, r_7⟩, h4, hh⟩ := bind_ex hh
    dsimp only at hh
    refine awp_first fun K kk hK => ?_
    simp only [go_sem]
    refine step_call2 (diptychlaw5_flat_ok _ _ _ _ h4) (by (try simp only [go_sem]) <;> exact wkl) (by rfl) (by rfl) ?_
    simp only [go_sem]
    refine hK _ _ fun nx => ?_; clear hK K; try clear kk
    obtain ⟨⟨r_8, r_9⟩, h5, hh⟩ := bind_ex hh
    dsimp only at hh
    refine awp_first fun K kk hK => ?_
    simp only [go_sem]
    refine step_call2 (piece_Cut_ok _ _ _ _ h5) (by (try simp only [go_sem]) <;> exact wkl) (by rfl) (by rfl) ?_
    simp only [go_sem]
    refine hK _ _ fun nx => ?_; clear hK K; try clear kk
    obtain ⟨⟨r_10, r_11⟩, h6, hh⟩ := bind_ex hh
    dsimp only at hh
    refine awp_first fun K kk hK => ?_
    simp only [go_sem]
    refine step_call2 (piece_Put_ok _ _ _ _ _ h6) (by (try simp only [go_sem]) <;> exact wkl) (by rfl) (by rfl) ?_
    simp only [go_sem]
    refine hK _ _ fun nx => ?_; clear hK K; try clear kk
    obtain ⟨⟨r_12, r_13⟩, h7, hh⟩ := bind_ex hh
    dsimp only at hh
    refine awp_first fun K kk hK => ?_
    simp only [go_sem]
    refine step_call2 (piece_Put_ok _ _ _ _ _ h7) (by (try simp only [go_sem]) <;> exact wkl) (by rfl) (by rfl) ?_
    simp only [go_sem]
    refine hK _ _ fun nx => ?_; clear hK K; try clear kk
    obtain ⟨⟨r_14, r_15⟩, h8, hh⟩ := bind_ex hh
    dsimp only at hh
    refine awp_first fun K kk hK => ?_
    simp only [go_sem]
    refine step_call2 (piece_Put_ok _ _ _ _ _ h8) (by (try simp only [go_sem]) <;> exact wkl) (by rfl) (by rfl) ?_
    simp only [go_sem]
    refine hK _ _ fun nx => ?_; clear hK K; try clear kk
    obtain ⟨⟨r_16, r_17⟩, h9, hh⟩ := bind_ex hh
    dsimp only at hh
    refine awp_first fun K kk hK => ?_
    simp only [go_sem]
    refine step_call2 (piece_Put_ok _ _ _ _ _ h9) (by (try simp only [go_sem]) <;> exact wkl) (by rfl) (by rfl) ?_
    simp only [go_sem]
    refine hK _ _ fun nx => ?_; clear hK K; try clear kk
    by_cases h10 : (r_9 == (0 : Int)) = true
    · rw [if_pos h10] at hh
      by_cases h11 : (r_11 == (0 : Int)) = true
      · rw [if_pos h11] at hh
        by_cases h12 : (r_13 == (0 : Int)) = true
        · rw [if_pos h12] at hh
          by_cases h13 : (r_15 == (0 : Int)) = true
          · rw [if_pos h13] at hh
            by_cases h14 : (r_17 == (0 : Int)) = true
            · rw [if_pos h14] at hh
              obtain ⟨total_18, h15, hh⟩ := bind_ex hh
              by_cases h16 : (total_18 == (w64 (r_7 - r_6))) = true
              · rw [if_pos h16] at hh
                obtain ⟨same_19, h17, hh⟩ := bind_ex hh
                by_cases h18 : (same_19) = true
                · rw [if_pos h18] at hh
                  obtain ⟨size_20, h19, hh⟩ := bind_ex hh
                  obtain ⟨size_21, h20, hh⟩ := bind_ex hh
                  by_cases h21 : (size_20 == (w64 (size_21 - (w64 (r_7 - r_6))))) = true
                  · rw [if_pos h21] at hh
                    obtain ⟨same_22, h22, hh⟩ := bind_ex hh
                    by_cases h23 : (same_22) = true
                    · rw [if_pos h23] at hh
                      obtain ⟨size_23, h24, hh⟩ := bind_ex hh
                      obtain ⟨size_24, h25, hh⟩ := bind_ex hh
                      refine awp_first fun K kk hK => ?_
                      simp only [go_sem, h10, h10, h11, h11, h12, h12, h13, h13, h14, h14, h16, h16, h18, h18, h21, h21, h23, h23]
                      (repeat refine sd ?_)
                      refine step_call2 (node_Total_ok _ _ h15) (by (try simp only [go_sem, h10, h10, h11, h11, h12, h12, h13, h13, h14, h14, h16, h16, h18, h18, h21, h21, h23, h23]) <;> exact wkl) (by rfl) (by rfl) ?_
                      simp only [go_sem, h10, h10, h11, h11, h12, h12, h13, h13, h14, h14, h16, h16, h18, h18, h21, h21, h23, h23]
                      (repeat refine sd ?_)
                      refine step_call2 (node_Same_ok _ _ _ h17) (by (try simp only [go_sem, h10, h10, h11, h11, h12, h12, h13, h13, h14, h14, h16, h16, h18, h18, h21, h21, h23, h23]) <;> exact wkl) (by rfl) (by rfl) ?_
                      simp only [go_sem, h10, h10, h11, h11, h12, h12, h13, h13, h14, h14, h16, h16, h18, h18, h21, h21, h23, h23]
                      (repeat refine sd ?_)
                      refine step_call2 (node_Size_ok _ _ h19) (by (try simp only [go_sem, h10, h10, h11, h11, h12, h12, h13, h13, h14, h14, h16, h16, h18, h18, h21, h21, h23, h23]) <;> exact wkl) (by rfl) (by rfl) ?_
                      simp only [go_sem, h10, h10, h11, h11, h12, h12, h13, h13, h14, h14, h16, h16, h18, h18, h21, h21, h23, h23]
                      (repeat refine sd ?_)
                      refine step_call2 (node_Size_ok _ _ h20) (by (try simp only [go_sem, h10, h10, h11, h11, h12, h12, h13, h13, h14, h14, h16, h16, h18, h18, h21, h21, h23, h23]) <;> exact wkl) (by rfl) (by rfl) ?_
                      simp only [go_sem, h10, h10, h11, h11, h12, h12, h13, h13, h14, h14, h16, h16, h18, h18, h21, h21, h23, h23]
                      (repeat refine sd ?_)
                      refine step_call2 (node_Same_ok _ _ _ h22) (by (try simp only [go_sem, h10, h10, h11, h11, h12, h12, h13, h13, h14, h14, h16, h16, h18, h18, h21, h21, h23, h23]) <;> exact wkl) (by rfl) (by rfl) ?_
                      simp only [go_sem, h10, h10, h11, h11, h12, h12, h13, h13, h14, h14, h16, h16, h18, h18, h21, h21, h23, h23]
                      (repeat refine sd ?_)
                      refine step_call2 (node_Size_ok _ _ h24) (by (try simp only [go_sem, h10, h10, h11, h11, h12, h12, h13, h13, h14, h14, h16, h16, h18, h18, h21, h21, h23, h23]) <;> exact wkl) (by rfl) (by rfl) ?_
                      simp only [go_sem, h10, h10, h11, h11, h12, h12, h13, h13, h14, h14, h16, h16, h18, h18, h21, h21, h23, h23]
                      (repeat refine sd ?_)
                      refine step_call2 (node_Size_ok _ _ h25) (by (try simp only [go_sem, h10, h10, h11, h11, h12, h12, h13, h13, h14, h14, h16, h16, h18, h18, h21, h21, h23, h23]) <;> exact wkl) (by rfl) (by rfl) ?_
                      simp only [go_sem, h10, h10, h11, h11, h12, h12, h13, h13, h14, h14, h16, h16, h18, h18, h21, h21, h23, h23]
                      (repeat refine sd ?_)
                      refine hK _ _ fun nx => ?_; clear hK K; try clear kk
                      refine awp_ret ?_; refine nmx ?_
                      obtain hR := Option.some.inj hh
                      subst hR
                      exact ret_p2
                    · rw [if_neg h23] at hh
                      replace h23 := Bool.eq_false_iff.mpr h23
                      refine awp_first fun K kk hK => ?_
                      simp only [go_sem, h10, h10, h11, h11, h12, h12, h13, h13, h14, h14, h16, h16, h18, h18, h21, h21, h23, h23]
                      (repeat refine sd ?_)
                      refine step_call2 (node_Total_ok _ _ h15) (by (try simp only [go_sem, h10, h10, h11, h11, h12, h12, h13, h13, h14, h14, h16, h16, h18, h18, h21, h21, h23, h23]) <;> exact wkl) (by rfl) (by rfl) ?_
                      simp only [go_sem, h10, h10, h11, h11, h12, h12, h13, h13, h14, h14, h16, h16, h18, h18, h21, h21, h23, h23]
                      (repeat refine sd ?_)
                      refine step_call2 (node_Same_ok _ _ _ h17) (by (try simp only [go_sem, h10, h10, h11, h11, h12, h12, h13, h13, h14, h14, h16, h16, h18, h18, h21, h21, h23, h23]) <;> exact wkl) (by rfl) (by rfl) ?_
                      simp only [go_sem, h10, h10, h11, h11, h12, h12, h13, h13, h14, h14, h16, h16, h18, h18, h21, h21, h23, h23]
                      (repeat refine sd ?_)
                      refine step_call2 (node_Size_ok _ _ h19) (by (try simp only [go_sem, h10, h10, h11, h11, h12, h12, h13, h13, h14, h14, h16, h16, h18, h18, h21, h21, h23, h23]) <;> exact wkl) (by rfl) (by rfl) ?_
                      simp only [go_sem, h10, h10, h11, h11, h12, h12, h13, h13, h14, h14, h16, h16, h18, h18, h21, h21, h23, h23]
                      (repeat refine sd ?_)
                      refine step_call2 (node_Size_ok _ _ h20) (by (try simp only [go_sem, h10, h10, h11, h11, h12, h12, h13, h13, h14, h14, h16, h16, h18, h18, h21, h21, h23, h23]) <;> exact wkl) (by rfl) (by rfl) ?_
                      simp only [go_sem, h10, h10, h11, h11, h12, h12, h13, h13, h14, h14, h16, h16, h18, h18, h21, h21, h23, h23]
                      (repeat refine sd ?_)
                      refine step_call2 (node_Same_ok _ _ _ h22) (by (try simp only [go_sem, h10, h10, h11, h11, h12, h12, h13, h13, h14, h14, h16, h16, h18, h18, h21, h21, h23, h23]) <;> exact wkl) (by rfl) (by rfl) ?_
                      simp only [go_sem, h10, h10, h11, h11, h12, h12, h13, h13, h14, h14, h16, h16, h18, h18, h21, h21, h23, h23]
                      (repeat refine sd ?_)
                      refine hK _ _ fun nx => ?_; clear hK K; try clear kk
                      refine awp_ret ?_; refine nmx ?_
                      obtain hR := Option.some.inj hh
                      subst hR
                      exact ret_p2
                  · rw [if_neg h21] at hh
                    replace h21 := Bool.eq_false_iff.mpr h21
                    refine awp_first fun K kk hK => ?_
                    simp only [go_sem, h10, h10, h11, h11, h12, h12, h13, h13, h14, h14, h16, h16, h18, h18, h21, h21]
                    (repeat refine sd ?_)
                    refine step_call2 (node_Total_ok _ _ h15) (by (try simp only [go_sem, h10, h10, h11, h11, h12, h12, h13, h13, h14, h14, h16, h16, h18, h18, h21, h21]) <;> exact wkl) (by rfl) (by rfl) ?_
                    simp only [go_sem, h10, h10, h11, h11, h12, h12, h13, h13, h14, h14, h16, h16, h18, h18, h21, h21]
                    (repeat refine sd ?_)
                    refine step_call2 (node_Same_ok _ _ _ h17) (by (try simp only [go_sem, h10, h10, h11, h11, h12, h12, h13, h13, h14, h14, h16, h16, h18, h18, h21, h21]) <;> exact wkl) (by rfl) (by rfl) ?_
                    simp only [go_sem, h10, h10, h11, h11, h12, h12, h13, h13, h14, h14, h16, h16, h18, h18, h21, h21]
                    (repeat refine sd ?_)
                    refine step_call2 (node_Size_ok _ _ h19) (by (try simp only [go_sem, h10, h10, h11, h11, h12, h12, h13, h13, h14, h14, h16, h16, h18, h18, h21, h21]) <;> exact wkl) (by rfl) (by rfl) ?_
                    simp only [go_sem, h10, h10, h11, h11, h12, h12, h13, h13, h14, h14, h16, h16, h18, h18, h21, h21]
                    (repeat refine sd ?_)
                    refine step_call2 (node_Size_ok _ _ h20) (by (try simp only [go_sem, h10, h10, h11, h11, h12, h12, h13, h13, h14, h14, h16, h16, h18, h18, h21, h21]) <;> exact wkl) (by rfl) (by rfl) ?_
                    simp only [go_sem, h10, h10, h11, h11, h12, h12, h13, h13, h14, h14, h16, h16, h18, h18, h21, h21]
                    (repeat refine sd ?_)
                    refine hK _ _ fun nx => ?_; clear hK K; try clear kk
                    refine awp_ret ?_; refine nmx ?_
                    obtain hR := Option.some.inj hh
                    subst hR
                    exact ret_p2
                · rw [if_neg h18] at hh
                  replace h18 := Bool.eq_false_iff.mpr h18
                  refine awp_first fun K kk hK => ?_
                  simp only [go_sem, h10, h10, h11, h11, h12, h12, h13, h13, h14, h14, h16, h16, h18, h18]
                  (repeat refine sd ?_)
                  refine step_call2 (node_Total_ok _ _ h15) (by (try simp only [go_sem, h10, h10, h11, h11, h12, h12, h13, h13, h14, h14, h16, h16, h18, h18]) <;> exact wkl) (by rfl) (by rfl) ?_
                  simp only [go_sem, h10, h10, h11, h11, h12, h12, h13, h13, h14, h14, h16, h16, h18, h18]
                  (repeat refine sd ?_)
                  refine step_call2 (node_Same_ok _ _ _ h17) (by (try simp only [go_sem, h10, h10, h11, h11, h12, h12, h13, h13, h14, h14, h16, h16, h18, h18]) <;> exact wkl) (by rfl) (by rfl) ?_
                  simp only [go_sem, h10, h10, h11, h11, h12, h12, h13, h13, h14, h14, h16, h16, h18, h18]
                  (repeat refine sd ?_)
                  refine hK _ _ fun nx => ?_; clear hK K; try clear kk
                  refine awp_ret ?_; refine nmx ?_
                  obtain hR := Option.some.inj hh
                  subst hR
                  exact ret_p2
              · rw [if_neg h16] at hh
                replace h16 := Bool.eq_false_iff.mpr h16
                refine awp_first fun K kk hK => ?_
                simp only [go_sem, h10, h10, h11, h11, h12, h12, h13, h13, h14, h14, h16, h16]
                (repeat refine sd ?_)
                refine step_call2 (node_Total_ok _ _ h15) (by (try simp only [go_sem, h10, h10, h11, h11, h12, h12, h13, h13, h14, h14, h16, h16]) <;> exact wkl) (by rfl) (by rfl) ?_
                simp only [go_sem, h10, h10, h11, h11, h12, h12, h13, h13, h14, h14, h16, h16]
                (repeat refine sd ?_)
                refine hK _ _ fun nx => ?_; clear hK K; try clear kk
                refine awp_ret ?_; refine nmx ?_
                obtain hR := Option.some.inj hh
                subst hR
                exact ret_p2
            · rw [if_neg h14] at hh
              replace h14 := Bool.eq_false_iff.mpr h14
              refine awp_first fun K kk hK => ?_
              simp only [go_sem, h10, h10, h11, h11, h12, h12, h13, h13, h14, h14]
              (repeat refine sd ?_)
              refine hK _ _ fun nx => ?_; clear hK K; try clear kk
              refine awp_ret ?_; refine nmx ?_
              obtain hR := Option.some.inj hh
              subst hR
              exact ret_p2
          · rw [if_neg h13] at hh
            replace h13 := Bool.eq_false_iff.mpr h13
            refine awp_first fun K kk hK => ?_
            simp only [go_sem, h10, h10, h11, h11, h12, h12, h13, h13]
            (repeat refine sd ?_)
            refine hK _ _ fun nx => ?_; clear hK K; try clear kk
            refine awp_ret ?_; refine nmx ?_
            obtain hR := Option.some.inj hh
            subst hR
            exact ret_p2
        · rw [if_neg h12] at hh
          replace h12 := Bool.eq_false_iff.mpr h12
          refine awp_first fun K kk hK => ?_
          simp only [go_sem, h10, h10, h11, h11, h12, h12]
          (repeat refine sd ?_)
          refine hK _ _ fun nx => ?_; clear hK K; try clear kk
          refine awp_ret ?_; refine nmx ?_
          obtain hR := Option.some.inj hh
          subst hR
          exact ret_p2
      · rw [if_neg h11] at hh
        replace h11 := Bool.eq_false_iff.mpr h11
        refine awp_first fun K kk hK => ?_
        simp only [go_sem, h10, h10, h11, h11]
        (repeat refine sd ?_)
        refine hK _ _ fun nx => ?_; clear hK K; try clear kk
        refine awp_ret ?_; refine nmx ?_
        obtain hR := Option.some.inj hh
        subst hR
        exact ret_p2
    · rw [if_neg h10] at hh
      replace h10 := Bool.eq_false_iff.mpr h10
      refine awp_first fun K kk hK => ?_
      simp only [go_sem, h10, h10]
      (repeat refine sd ?_)
      refine hK _ _ fun nx => ?_; clear hK K; try clear kk
      refine awp_ret ?_; refine nmx ?_
      obtain hR := Option.some.inj hh
      subst hR
      exact ret_p2
theorem diptychref1_Same_grp : ∀ kr : Nat, (∀ (a_1 : api_Node) (b_2 : api_Node) (R : Bool), diptychref1_Same_k kr a_1 b_2 = some R → PC Tryd.prog 66 [.agg [.str a_1.Kind, .str a_1.Text, .list 1 (a_1.Marks.map PV.str), .list 2 (a_1.Attrs.map api_Attr.pv), .list 5 (a_1.Kids.map api_Node.pv)], .agg [.str b_2.Kind, .str b_2.Text, .list 1 (b_2.Marks.map PV.str), .list 2 (b_2.Attrs.map api_Attr.pv), .list 5 (b_2.Kids.map api_Node.pv)]] (.bool R)) ∧
    (∀ (a_1 : (List api_Node)) (b_2 : (List api_Node)) (R : Bool), diptychref1_SameAll_k kr a_1 b_2 = some R → PC Tryd.prog 35 [.list 5 (a_1.map api_Node.pv), .list 5 (b_2.map api_Node.pv)] (.bool R)) := by
  intro kr
  induction kr with
  | zero => exact ⟨(by intro a_1 b_2 R hh; rw [diptychref1_Same_k] at hh; cases hh), (by intro a_1 b_2 R hh; rw [diptychref1_SameAll_k] at hh; cases hh)⟩
  | succ kr ih =>
    obtain ⟨ih_diptychref1_Same, ih_diptychref1_SameAll⟩ := ih
    refine ⟨?_, ?_⟩
    · intro a_1 b_2 R hh
      rw [diptychref1_Same_k] at hh
      refine start_diptychref1_Same rfl ?_
      refine awp_first fun K kk hK => ?_
      simp only [go_sem]
      refine hK _ _ fun nx => ?_; clear hK K; try clear kk
      refine awp_seq ?_
      by_cases h1 : (!(a_1.Kind == b_2.Kind)) = true
      · rw [if_pos h1] at hh
        refine awp_first fun K kk hK => ?_
        simp only [go_sem, h1, h1]
        (repeat refine sd ?_)
        refine hK _ _ fun nx => ?_; clear hK K; try clear kk
        refine awp_true rfl ?_
        refine awp_first fun K kk hK => ?_
        simp only [go_sem]
        refine hK _ _ fun nx => ?_; clear hK K; try clear kk
        refine awp_ret ?_; refine nmx ?_
        obtain hR := Option.some.inj hh
        subst hR
        exact ret_p2
      · rw [if_neg h1] at hh
        replace h1 := Bool.eq_false_iff.mpr h1
        by_cases h2 : (!(a_1.Text == b_2.Text)) = true
        · rw [if_pos h2] at hh
          refine awp_first fun K kk hK => ?_
          simp only [go_sem, h1, h1, h2, h2]
          (repeat refine sd ?_)
          refine hK _ _ fun nx => ?_; clear hK K; try clear kk
          refine awp_true rfl ?_
          refine awp_first fun K kk hK => ?_
          simp only [go_sem]
          refine hK _ _ fun nx => ?_; clear hK K; try clear kk
          refine awp_ret ?_; refine nmx ?_
          obtain hR := Option.some.inj hh
          subst hR
          exact ret_p2
        · rw [if_neg h2] at hh
          replace h2 := Bool.eq_false_iff.mpr h2
          obtain ⟨samena_3, h3, hh⟩ := bind_ex hh
          by_cases h4 : (!samena_3) = true
          · rw [if_pos h4] at hh
            refine awp_first fun K kk hK => ?_
            simp only [go_sem, h1, h1, h2, h2, h4, h4]
            (repeat refine sd ?_)
            refine step_call2 (diptychref1_sameNames_ok _ _ _ h3) (by (try simp only [go_sem, h1, h1, h2, h2, h4, h4]) <;> exact wkl) (by rfl) (by rfl) ?_
            simp only [go_sem, h1, h1, h2, h2, h4, h4]
            (repeat refine sd ?_)
            refine hK _ _ fun nx => ?_; clear hK K; try clear kk
            refine awp_true rfl ?_
            refine awp_first fun K kk hK => ?_
            simp only [go_sem]
            refine hK _ _ fun nx => ?_; clear hK K; try clear kk
            refine awp_ret ?_; refine nmx ?_
            obtain hR := Option.some.inj hh
            subst hR
            exact ret_p2
          · rw [if_neg h4] at hh
            replace h4 := Bool.eq_false_iff.mpr h4
            refine awp_first fun K kk hK => ?_
            simp only [go_sem, h1, h1, h2, h2, h4, h4]
            (repeat refine sd ?_)
            refine step_call2 (diptychref1_sameNames_ok _ _ _ h3) (by (try simp only [go_sem, h1, h1, h2, h2, h4, h4]) <;> exact wkl) (by rfl) (by rfl) ?_
            simp only [go_sem, h1, h1, h2, h2, h4, h4]
            (repeat refine sd ?_)
            refine hK _ _ fun nx => ?_; clear hK K; try clear kk
            by_cases h5 : ((a_1.Attrs.length : Int) != (b_2.Attrs.length : Int)) = true
            · rw [if_pos h5] at hh
              refine awp_true (by first | exact congrArg PV.bool h5 | rfl) ?_
              refine awp_first fun K kk hK => ?_
              simp only [go_sem]
              refine hK _ _ fun nx => ?_; clear hK K; try clear kk
              refine awp_ret ?_; refine nmx ?_
              obtain hR := Option.some.inj hh
              subst hR
              exact ret_p2
            · rw [if_neg h5] at hh
              replace h5 := Bool.eq_false_iff.mpr h5
              refine awp_false (by first | exact congrArg PV.bool h5 | rfl) ?_
              refine awp_skip ?_; refine nmx ?_
              refine awp_seq ?_
              refine awp_first fun K kk hK => ?_
              simp only [go_sem]
              refine hK _ _ fun nx => ?_; clear hK K; try clear kk
              obtain ⟨e0, f0, hh⟩ := bind_ex hh
              obtain ⟨hlen0, f0⟩ := chk_some f0
              refine awp_fragE (CutTo (fun s => .inr () = e0 ∧ ∃ (i_12 : Int) (v_13 : Bool) (nx : Nat) (g2 : Nat) (g3 : Nat), s = ⟨[(2, .box 2 g2 0), (3, .box 3 g3 0), (5, .int .i64 i_12), (39, .bool v_13)], [(2, g2, .var 28 [.str a_1.Kind, .str a_1.Text, .list 1 (a_1.Marks.map PV.str), .list 2 (a_1.Attrs.map api_Attr.pv), .list 5 (a_1.Kids.map api_Node.pv)]), (3, g3, .var 28 [.str b_2.Kind, .str b_2.Text, .list 1 (b_2.Marks.map PV.str), .list 2 (b_2.Attrs.map api_Attr.pv), .list 5 (b_2.Kids.map api_Node.pv)])], nx⟩))
                (fun i s => False)
                (fun s => ∃ res_11, .inl res_11 = e0 ∧ bodyR Tryd.prog [.tmp 4] (.bool res_11) [] .ret s) ?_ ?_ ?_ ?_
              · refine awp_block ?_
                refine awp_loopJ fun I hI => ?_
                have key : ∀ (suf pre : List api_Attr) (i_6 : Int), a_1.Attrs = pre ++ suf → i_6 = (pre.length : Int) → diptychref1_Same_l0 b_2 suf i_6 = some e0 → ∀ (nx : Nat) (g2 : Nat) (g3 : Nat), I ⟨[(2, .box 2 g2 0), (3, .box 3 g3 0), (5, .int .i64 i_6)], [(2, g2, .var 28 [.str a_1.Kind, .str a_1.Text, .list 1 (a_1.Marks.map PV.str), .list 2 (a_1.Attrs.map api_Attr.pv), .list 5 (a_1.Kids.map api_Node.pv)]), (3, g3, .var 28 [.str b_2.Kind, .str b_2.Text, .list 1 (b_2.Marks.map PV.str), .list 2 (b_2.Attrs.map api_Attr.pv), .list 5 (b_2.Kids.map api_Node.pv)])], nx⟩ := by
                  intro suf
                  induction suf with
                  | nil =>
                    intro pre i_6 hsplit hidx hh nx g2 g3
                    rw [diptychref1_Same_l0] at hh
                    refine hI _ ?_
                    have h14 := walk_nil hsplit hidx
                    refine awp_seq ?_
                    refine awp_first fun K kk hK => ?_
                    simp only [go_sem]
                    refine hK _ _ fun nx => ?_; clear hK K; try clear kk
                    refine awp_false (by first | exact congrArg PV.bool h14 | rfl) ?_
                    refine awp_exit ?_; refine nmx ?_
                    refine fragN ?_
                    refine cut_id ?_
                    refine ⟨(Option.some.inj hh), ?_⟩
                    first | exact ⟨_, _, _, _, _, rfl⟩ | (simp only [diptychlaw5_Cell.pv_eq, api_Attr.pv_eq, api_Node.pv_eq, place_Spot.pv_eq, piece_flat.pv_eq, diptychref4_Spot.pv_eq, token_Token.pv_eq, pvL, List.map_cons, List.map_nil, List.map_append, rune1]; exact ⟨_, _, _, _, _, rfl⟩) | (simp only [diptychlaw5_Cell.pv_eq, api_Attr.pv_eq, api_Node.pv_eq, place_Spot.pv_eq, piece_flat.pv_eq, diptychref4_Spot.pv_eq, token_Token.pv_eq, pvL, List.map_cons, List.map_nil, List.map_append, rune1, h1, h14, h2, h4, h5]; exact ⟨_, _, _, _, _, rfl⟩)
                  | cons y_9 suf ih =>
                    intro pre i_6 hsplit hidx hh nx g2 g3
                    rw [diptychref1_Same_l0] at hh
                    refine hI _ ?_
                    obtain ⟨hl0a, hl0b, hl0d, hl0w, h14⟩ := walk_cons (f := api_Attr.pv) hsplit hidx hlen0
                    refine awp_seq ?_
                    refine awp_first fun K kk hK => ?_
                    simp only [go_sem]
                    refine hK _ _ fun nx => ?_; clear hK K; try clear kk
                    refine awp_true (by first | exact congrArg PV.bool h14 | rfl) ?_
                    refine awp_skip ?_; refine nmx ?_
                    refine awp_seq ?_
                    refine awp_block ?_
                    obtain ⟨x_10, h15, hh⟩ := bind_ex hh
                    obtain ⟨h15a, h15b, h15c⟩ := rd_some h15
                    have h15d := rd_get (f := api_Attr.pv) h15c
                    have h15f := rd_more (f := api_Attr.pv) h15c
                    try simp only [Int.toNat_natCast, Int.reduceToNat] at h15d h15f
                    refine awp_first fun K kk hK => ?_
                    simp only [go_sem, h15a, h15b, h15d, h15f.1, h15f.2, hl0a, hl0b, hl0d, hl0w]
                    (repeat refine sd ?_)
                    refine hK _ _ fun nx => ?_; clear hK K; try clear kk
                    by_cases h16 : ((((y_9.Name == x_10.Name) && (y_9.Value == x_10.Value)) != true)) = true
                    · rw [if_pos h16] at hh
                      refine awp_true (by first | exact congrArg PV.bool h16 | rfl) ?_
                      refine awp_first fun K kk hK => ?_
                      simp only [go_sem, hl0a, hl0b, hl0d, hl0w]
                      refine hK _ _ fun nx => ?_; clear hK K; try clear kk
                      refine awp_ret ?_; refine nmx ?_
                      refine fragR ⟨_, (Option.some.inj hh), ?_⟩
                      exact ret_p2
                    · rw [if_neg h16] at hh
                      replace h16 := Bool.eq_false_iff.mpr h16
                      refine awp_false (by first | exact congrArg PV.bool h16 | rfl) ?_
                      refine awp_skip ?_; refine nmx ?_
                      refine awp_region fun K kk hK => ?_
                      simp only [go_sem, hl0a, hl0b, hl0d, hl0w]
                      refine hK _ _ fun nx => ?_; clear hK K; try clear kk
                      refine nmx ?_
                      have ih' := ih (pre ++ [y_9]) (i_6 + 1) (by rw [hsplit]; simp) (by simp [hidx]) hh nx
                      refine cut_id ?_
                      first | exact ih' _ _ | (simp only [diptychlaw5_Cell.pv_eq, api_Attr.pv_eq, api_Node.pv_eq, place_Spot.pv_eq, piece_flat.pv_eq, diptychref4_Spot.pv_eq, token_Token.pv_eq, pvL, List.map_cons, List.map_nil, List.map_append, rune1] at ih' ⊢; exact ih' _ _) | (simp only [diptychlaw5_Cell.pv_eq, api_Attr.pv_eq, api_Node.pv_eq, place_Spot.pv_eq, piece_flat.pv_eq, diptychref4_Spot.pv_eq, token_Token.pv_eq, pvL, List.map_cons, List.map_nil, List.map_append, rune1, h1, h14, h16, h2, h4, h5] at ih' ⊢; exact ih' _ _)
                exact key a_1.Attrs [] _ rfl rfl f0 _ _ _
              · rintro s ⟨t, hless, rfl, i_12, v_13, nx, g2, g3, rfl⟩
                try dsimp only at hh
                refine nmy ?_
                first | (refine cut_less hless ?_; try refine cut_awp ?_) | refine frag_less hless ?_ | refine body_less hless ?_
                obtain ⟨sameal_14, h17, hh⟩ := bind_ex hh
                refine awp_first fun K kk hK => ?_
                simp only [go_sem]
                refine step_call2 (ih_diptychref1_SameAll _ _ _ h17) (by (try simp only [go_sem]) <;> exact wkl) (by rfl) (by rfl) ?_
                simp only [go_sem]
                refine hK _ _ fun nx => ?_; clear hK K; try clear kk
                refine awp_ret ?_; refine nmx ?_
                obtain hR := Option.some.inj hh
                subst hR
                exact ret_p2
              · intro i s h; exact h.elim
              · rintro s ⟨res_11, rfl, hb⟩
                try dsimp only at hh
                obtain hR := Option.some.inj hh
                subst hR
                refine nmx ?_
                exact hb
    · intro a_1 b_2 R hh
      rw [diptychref1_SameAll_k] at hh
      refine start_diptychref1_SameAll rfl ?_
      refine awp_first fun K kk hK => ?_
      simp only [go_sem]
      refine hK _ _ fun nx => ?_; clear hK K; try clear kk
      refine awp_seq ?_
      refine awp_first fun K kk hK => ?_
      simp only [go_sem]
      refine hK _ _ fun nx => ?_; clear hK K; try clear kk
      by_cases h1 : ((a_1.length : Int) != (b_2.length : Int)) = true
      · rw [if_pos h1] at hh
        refine awp_true (by first | exact congrArg PV.bool h1 | rfl) ?_
        refine awp_first fun K kk hK => ?_
        simp only [go_sem]
        refine hK _ _ fun nx => ?_; clear hK K; try clear kk
        refine awp_ret ?_; refine nmx ?_
        obtain hR := Option.some.inj hh
        subst hR
        exact ret_p2
      · rw [if_neg h1] at hh
        replace h1 := Bool.eq_false_iff.mpr h1
        refine awp_false (by first | exact congrArg PV.bool h1 | rfl) ?_
        refine awp_skip ?_; refine nmx ?_
        refine awp_seq ?_
        refine awp_first fun K kk hK => ?_
        simp only [go_sem]
        refine hK _ _ fun nx => ?_; clear hK K; try clear kk
        obtain ⟨e0, f0, hh⟩ := bind_ex hh
        obtain ⟨hlen0, f0⟩ := chk_some f0
        refine awp_fragE (CutTo (fun s => .inr () = e0 ∧ ∃ (i_14 : Int) (v_15 : Bool) (nx : Nat), s = ⟨[(0, .list 5 (a_1.map api_Node.pv)), (1, .list 5 (b_2.map api_Node.pv)), (5, .int .i64 i_14), (14, .bool v_15)], [], nx⟩))
          (fun i s => False)
          (fun s => ∃ res_13, .inl res_13 = e0 ∧ bodyR Tryd.prog [.tmp 4] (.bool res_13) [] .ret s) ?_ ?_ ?_ ?_
        · refine awp_block ?_
          refine awp_loopJ fun I hI => ?_
          have key : ∀ (suf pre : List api_Node) (i_6 : Int), a_1 = pre ++ suf → i_6 = (pre.length : Int) → diptychref1_SameAll_l0 b_2 (diptychref1_Same_k kr) suf i_6 = some e0 → ∀ (nx : Nat), I ⟨[(0, .list 5 (a_1.map api_Node.pv)), (1, .list 5 (b_2.map api_Node.pv)), (5, .int .i64 i_6)], [], nx⟩ := by
            intro suf
            induction suf with
            | nil =>
              intro pre i_6 hsplit hidx hh nx
              rw [diptychref1_SameAll_l0] at hh
              refine hI _ ?_
              have h12 := walk_nil hsplit hidx
              refine awp_seq ?_
              refine awp_first fun K kk hK => ?_
              simp only [go_sem]
              refine hK _ _ fun nx => ?_; clear hK K; try clear kk
              refine awp_false (by first | exact congrArg PV.bool h12 | rfl) ?_
              refine awp_exit ?_; refine nmx ?_
              refine fragN ?_
              refine cut_id ?_
              refine ⟨(Option.some.inj hh), ?_⟩
              first | exact ⟨_, _, _, rfl⟩ | (simp only [diptychlaw5_Cell.pv_eq, api_Attr.pv_eq, api_Node.pv_eq, place_Spot.pv_eq, piece_flat.pv_eq, diptychref4_Spot.pv_eq, token_Token.pv_eq, pvL, List.map_cons, List.map_nil, List.map_append, rune1]; exact ⟨_, _, _, rfl⟩) | (simp only [diptychlaw5_Cell.pv_eq, api_Attr.pv_eq, api_Node.pv_eq, place_Spot.pv_eq, piece_flat.pv_eq, diptychref4_Spot.pv_eq, token_Token.pv_eq, pvL, List.map_cons, List.map_nil, List.map_append, rune1, h1, h12]; exact ⟨_, _, _, rfl⟩)
            | cons y_10 suf ih =>
              intro pre i_6 hsplit hidx hh nx
              rw [diptychref1_SameAll_l0] at hh
              refine hI _ ?_
              obtain ⟨hl0a, hl0b, hl0d, hl0w, h12⟩ := walk_cons (f := api_Node.pv) hsplit hidx hlen0
              refine awp_seq ?_
              refine awp_first fun K kk hK => ?_
              simp only [go_sem]
              refine hK _ _ fun nx => ?_; clear hK K; try clear kk
              refine awp_true (by first | exact congrArg PV.bool h12 | rfl) ?_
              refine awp_skip ?_; refine nmx ?_
              refine awp_seq ?_
              refine awp_block ?_
              obtain ⟨x_11, h13, hh⟩ := bind_ex hh
              obtain ⟨h13a, h13b, h13c⟩ := rd_some h13
              have h13d := rd_get (f := api_Node.pv) h13c
              have h13f := rd_more (f := api_Node.pv) h13c
              try simp only [Int.toNat_natCast, Int.reduceToNat] at h13d h13f
              obtain ⟨same_12, h14, hh⟩ := bind_ex hh
              refine awp_first fun K kk hK => ?_
              simp only [go_sem, h13a, h13b, h13d, h13f.1, h13f.2, hl0a, hl0b, hl0d, hl0w]
              (repeat refine sd ?_)
              refine step_call2 (ih_diptychref1_Same _ _ _ h14) (by (try simp only [go_sem, h13a, h13b, h13d, h13f.1, h13f.2, hl0a, hl0b, hl0d, hl0w]) <;> exact wkl) (by rfl) (by rfl) ?_
              simp only [go_sem, h13a, h13b, h13d, h13f.1, h13f.2, hl0a, hl0b, hl0d, hl0w]
              (repeat refine sd ?_)
              refine hK _ _ fun nx => ?_; clear hK K; try clear kk
              by_cases h15 : (!same_12) = true
              · rw [if_pos h15] at hh
                refine awp_true (by first | exact congrArg PV.bool h15 | rfl) ?_
                refine awp_first fun K kk hK => ?_
                simp only [go_sem, hl0a, hl0b, hl0d, hl0w]
                refine hK _ _ fun nx => ?_; clear hK K; try clear kk
                refine awp_ret ?_; refine nmx ?_
                refine fragR ⟨_, (Option.some.inj hh), ?_⟩
                exact ret_p2
              · rw [if_neg h15] at hh
                replace h15 := Bool.eq_false_iff.mpr h15
                refine awp_false (by first | exact congrArg PV.bool h15 | rfl) ?_
                refine awp_skip ?_; refine nmx ?_
                refine awp_region fun K kk hK => ?_
                simp only [go_sem, hl0a, hl0b, hl0d, hl0w]
                refine hK _ _ fun nx => ?_; clear hK K; try clear kk
                refine nmx ?_
                have ih' := ih (pre ++ [y_10]) (i_6 + 1) (by rw [hsplit]; simp) (by simp [hidx]) hh nx
                refine cut_id ?_
                first | exact ih' | (simp only [diptychlaw5_Cell.pv_eq, api_Attr.pv_eq, api_Node.pv_eq, place_Spot.pv_eq, piece_flat.pv_eq, diptychref4_Spot.pv_eq, token_Token.pv_eq, pvL, List.map_cons, List.map_nil, List.map_append, rune1] at ih' ⊢; exact ih') | (simp only [diptychlaw5_Cell.pv_eq, api_Attr.pv_eq, api_Node.pv_eq, place_Spot.pv_eq, piece_flat.pv_eq, diptychref4_Spot.pv_eq, token_Token.pv_eq, pvL, List.map_cons, List.map_nil, List.map_append, rune1, h1, h12, h15] at ih' ⊢; exact ih')
          exact key a_1 [] _ rfl rfl f0 _
        · rintro s ⟨t, hless, rfl, i_14, v_15, nx, rfl⟩
          try dsimp only at hh
          refine nmy ?_
          first | (refine cut_less hless ?_; try refine cut_awp ?_) | refine frag_less hless ?_ | refine body_less hless ?_
          refine awp_first fun K kk hK => ?_
          simp only [go_sem]
          refine hK _ _ fun nx => ?_; clear hK K; try clear kk
          refine awp_ret ?_; refine nmx ?_
          obtain hR := Option.some.inj hh
          subst hR
          exact ret_p2
        · intro i s h; exact h.elim
        · rintro s ⟨res_13, rfl, hb⟩
          try dsimp only at hh
          obtain hR := Option.some.inj hh
          subst hR
          refine nmx ?_
          exact hb
theorem diptychref1_Same_ok (a_1 : api_Node) (b_2 : api_Node) (R : Bool) (hh : diptychref1_Same a_1 b_2 = some R) : PC Tryd.prog 66 [.agg [.str a_1.Kind, .str a_1.Text, .list 1 (a_1.Marks.map PV.str), .list 2 (a_1.Attrs.map api_Attr.pv), .list 5 (a_1.Kids.map api_Node.pv)], .agg [.str b_2.Kind, .str b_2.Text, .list 1 (b_2.Marks.map PV.str), .list 2 (b_2.Attrs.map api_Attr.pv), .list 5 (b_2.Kids.map api_Node.pv)]] (.bool R) := by
  rw [diptychref1_Same] at hh
  obtain ⟨kr, hh⟩ := lim_some hh
  exact (diptychref1_Same_grp kr).1 _ _ _ hh
theorem diptychref1_SameAll_ok (a_1 : (List api_Node)) (b_2 : (List api_Node)) (R : Bool) (hh : diptychref1_SameAll a_1 b_2 = some R) : PC Tryd.prog 35 [.list 5 (a_1.map api_Node.pv), .list 5 (b_2.map api_Node.pv)] (.bool R) := by
  rw [diptychref1_SameAll] at hh
  obtain ⟨kr, hh⟩ := lim_some hh
  exact (diptychref1_Same_grp kr).2 _ _ _ hh
theorem diptychlaw5_PieceIn_ok (l_1 : (List diptychlaw5_Cell)) (k_2 : (List diptychlaw5_Cell)) (from_3 : Int) (to_4 : Int) (R : Bool) (hh : diptychlaw5_PieceIn l_1 k_2 from_3 to_4 = some R) : PC Tryd.prog 11 [.list 3 (l_1.map diptychlaw5_Cell.pv), .list 3 (k_2.map diptychlaw5_Cell.pv), .int .i64 from_3, .int .i64 to_4] (.bool R) := by
  rw [diptychlaw5_PieceIn] at hh
  refine start_diptychlaw5_PieceIn rfl ?_
  refine awp_first fun K kk hK => ?_
  simp only [go_sem]
  refine hK _ _ fun nx => ?_; clear hK K; try clear kk
  obtain ⟨shown_5, h1, hh⟩ := bind_ex hh
  refine awp_first fun K kk hK => ?_
  simp only [go_sem]
  refine step_call2 (diptychlaw5_shown_ok _ h1) (by (try simp only [go_sem]) <;> exact wkl) (by rfl) (by rfl) ?_
  simp only [go_sem]
  refine hK _ _ fun nx => ?_; clear hK K; try clear kk
  refine awp_seq ?_
  refine awp_first fun K kk hK => ?_
  simp only [go_sem]
  refine hK _ _ fun nx => ?_; clear hK K; try clear kk
  by_cases h2 : (!shown_5) = true
  · rw [if_pos h2] at hh
    refine awp_true (by first | exact congrArg PV.bool h2 | rfl) ?_
    refine awp_first fun K kk hK => ?_
    simp only [go_sem]
    refine hK _ _ fun nx => ?_; clear hK K; try clear kk
    refine awp_ret ?_; refine nmx ?_
    obtain hR := Option.some.inj hh
    subst hR
    exact ret_p2
  · rw [if_neg h2] at hh
    replace h2 := Bool.eq_false_iff.mpr h2
    refine awp_false (by first | exact congrArg PV.bool h2 | rfl) ?_
    refine awp_skip ?_; refine nmx ?_
    obtain ⟨doc_6, h3, hh⟩ := bind_ex hh
    refine awp_first fun K kk hK => ?_
    simp only [go_sem]
    refine step_call2 (diptychlaw5_doc_ok _ _ h3) (by (try simp only [go_sem]) <;> exact wkl) (by rfl) (by rfl) ?_
    simp only [go_sem]
    refine hK _ _ fun nx => ?_; clear hK K; try clear kk
    obtain ⟨⟨r_7, r_8⟩, h4, hh⟩ := bind_ex hh
    dsimp only at hh
    refine awp_first fun K kk hK => ?_
    simp only [go_sem]
    refine step_call2 (diptychlaw5_flat_ok _ _ _ _ h4) (by (try simp only [go_sem]) <;> exact wkl) (by rfl) (by rfl) ?_
    simp only [go_sem]
    refine hK _ _ fun nx => ?_; clear hK K; try clear kk
    obtain ⟨made_9, h5, hh⟩ := bind_ex hh
    refine awp_first fun K kk hK => ?_
    simp only [go_sem]
    refine step_call2 (diptychlaw5_made_ok _ _ h5) (by (try simp only [go_sem]) <;> exact wkl) (by rfl) (by rfl) ?_
    simp only [go_sem]
    refine hK _ _ fun nx => ?_; clear hK K; try clear kk
    obtain ⟨⟨r_10, r_11⟩, h6, hh⟩ := bind_ex hh
    dsimp only at hh
    refine awp_first fun K kk hK => ?_
    simp only [go_sem]
    refine step_call2 (piece_Cut_ok _ _ _ _ h6) (by (try simp only [go_sem]) <;> exact wkl) (by rfl) (by rfl) ?_
    simp only [go_sem]
    refine hK _ _ fun nx => ?_; clear hK K; try clear kk
    obtain ⟨⟨r_12, r_13⟩, h7, hh⟩ := bind_ex hh
    dsimp only at hh
    refine awp_first fun K kk hK => ?_
    simp only [go_sem]
    refine step_call2 (piece_Put_ok _ _ _ _ _ h7) (by (try simp only [go_sem]) <;> exact wkl) (by rfl) (by rfl) ?_
    simp only [go_sem]
    refine hK _ _ fun nx => ?_; clear hK K; try clear kk
    obtain ⟨total_14, h8, hh⟩ := bind_ex hh
    refine awp_first fun K kk hK => ?_
    simp only [go_sem]
    refine step_call2 (node_Total_ok _ _ h8) (by (try simp only [go_sem]) <;> exact wkl) (by rfl) (by rfl) ?_
    simp only [go_sem]
    refine hK _ _ fun nx => ?_; clear hK K; try clear kk
    obtain ⟨⟨r_15, r_16⟩, h9, hh⟩ := bind_ex hh
    dsimp only at hh
    refine awp_first fun K kk hK => ?_
    simp only [go_sem]
    refine step_call2 (piece_Cut_ok _ _ _ _ h9) (by (try simp only [go_sem]) <;> exact wkl) (by rfl) (by rfl) ?_
    simp only [go_sem]
    refine hK _ _ fun nx => ?_; clear hK K; try clear kk
    obtain ⟨⟨r_17, r_18⟩, h10, hh⟩ := bind_ex hh
    dsimp only at hh
    refine awp_first fun K kk hK => ?_
    simp only [go_sem]
    refine step_call2 (piece_Put_ok _ _ _ _ _ h10) (by (try simp only [go_sem]) <;> exact wkl) (by rfl) (by rfl) ?_
    simp only [go_sem]
    refine hK _ _ fun nx => ?_; clear hK K; try clear kk
    by_cases h11 : (r_11 == (0 : Int)) = true
    · rw [if_pos h11] at hh
      by_cases h12 : (r_13 == (0 : Int)) = true
      · rw [if_pos h12] at hh
        by_cases h13 : (r_16 == (0 : Int)) = true
        · rw [if_pos h13] at hh
          by_cases h14 : (r_18 == (0 : Int)) = true
          · rw [if_pos h14] at hh
            obtain ⟨sameal_19, h15, hh⟩ := bind_ex hh
            by_cases h16 : (sameal_19) = true
            · rw [if_pos h16] at hh
              obtain ⟨same_20, h17, hh⟩ := bind_ex hh
              by_cases h18 : (same_20) = true
              · rw [if_pos h18] at hh
                obtain ⟨size_21, h19, hh⟩ := bind_ex hh
                obtain ⟨size_22, h20, hh⟩ := bind_ex hh
                by_cases h21 : (size_21 == (w64 ((w64 (size_22 - (w64 (r_8 - r_7)))) + total_14))) = true
                · rw [if_pos h21] at hh
                  obtain ⟨right_23, h22, hh⟩ := bind_ex hh
                  refine awp_first fun K kk hK => ?_
                  simp only [go_sem, h11, h11, h12, h12, h13, h13, h14, h14, h16, h16, h18, h18, h21, h21]
                  (repeat refine sd ?_)
                  refine step_call2 (diptychref1_SameAll_ok _ _ _ h15) (by (try simp only [go_sem, h11, h11, h12, h12, h13, h13, h14, h14, h16, h16, h18, h18, h21, h21]) <;> exact wkl) (by rfl) (by rfl) ?_
                  simp only [go_sem, h11, h11, h12, h12, h13, h13, h14, h14, h16, h16, h18, h18, h21, h21]
                  (repeat refine sd ?_)
                  refine step_call2 (node_Same_ok _ _ _ h17) (by (try simp only [go_sem, h11, h11, h12, h12, h13, h13, h14, h14, h16, h16, h18, h18, h21, h21]) <;> exact wkl) (by rfl) (by rfl) ?_
                  simp only [go_sem, h11, h11, h12, h12, h13, h13, h14, h14, h16, h16, h18, h18, h21, h21]
                  (repeat refine sd ?_)
                  refine step_call2 (node_Size_ok _ _ h19) (by (try simp only [go_sem, h11, h11, h12, h12, h13, h13, h14, h14, h16, h16, h18, h18, h21, h21]) <;> exact wkl) (by rfl) (by rfl) ?_
                  simp only [go_sem, h11, h11, h12, h12, h13, h13, h14, h14, h16, h16, h18, h18, h21, h21]
                  (repeat refine sd ?_)
                  refine step_call2 (node_Size_ok _ _ h20) (by (try simp only [go_sem, h11, h11, h12, h12, h13, h13, h14, h14, h16, h16, h18, h18, h21, h21]) <;> exact wkl) (by rfl) (by rfl) ?_
                  simp only [go_sem, h11, h11, h12, h12, h13, h13, h14, h14, h16, h16, h18, h18, h21, h21]
                  (repeat refine sd ?_)
                  refine step_call2 (node_Right_ok _ _ h22) (by (try simp only [go_sem, h11, h11, h12, h12, h13, h13, h14, h14, h16, h16, h18, h18, h21, h21]) <;> exact wkl) (by rfl) (by rfl) ?_
                  simp only [go_sem, h11, h11, h12, h12, h13, h13, h14, h14, h16, h16, h18, h18, h21, h21]
                  (repeat refine sd ?_)
                  refine hK _ _ fun nx => ?_; clear hK K; try clear kk
                  refine awp_ret ?_; refine nmx ?_
                  obtain hR := Option.some.inj hh
                  subst hR
                  exact ret_p2
                · rw [if_neg h21] at hh
                  replace h21 := Bool.eq_false_iff.mpr h21
                  refine awp_first fun K kk hK => ?_
                  simp only [go_sem, h11, h11, h12, h12, h13, h13, h14, h14, h16, h16, h18, h18, h21, h21]
                  (repeat refine sd ?_)
                  refine step_call2 (diptychref1_SameAll_ok _ _ _ h15) (by (try simp only [go_sem, h11, h11, h12, h12, h13, h13, h14, h14, h16, h16, h18, h18, h21, h21]) <;> exact wkl) (by rfl) (by rfl) ?_
                  simp only [go_sem, h11, h11, h12, h12, h13, h13, h14, h14, h16, h16, h18, h18, h21, h21]
                  (repeat refine sd ?_)
                  refine step_call2 (node_Same_ok _ _ _ h17) (by (try simp only [go_sem, h11, h11, h12, h12, h13, h13, h14, h14, h16, h16, h18, h18, h21, h21]) <;> exact wkl) (by rfl) (by rfl) ?_
                  simp only [go_sem, h11, h11, h12, h12, h13, h13, h14, h14, h16, h16, h18, h18, h21, h21]
                  (repeat refine sd ?_)
                  refine step_call2 (node_Size_ok _ _ h19) (by (try simp only [go_sem, h11, h11, h12, h12, h13, h13, h14, h14, h16, h16, h18, h18, h21, h21]) <;> exact wkl) (by rfl) (by rfl) ?_
                  simp only [go_sem, h11, h11, h12, h12, h13, h13, h14, h14, h16, h16, h18, h18, h21, h21]
                  (repeat refine sd ?_)
                  refine step_call2 (node_Size_ok _ _ h20) (by (try simp only [go_sem, h11, h11, h12, h12, h13, h13, h14, h14, h16, h16, h18, h18, h21, h21]) <;> exact wkl) (by rfl) (by rfl) ?_
                  simp only [go_sem, h11, h11, h12, h12, h13, h13, h14, h14, h16, h16, h18, h18, h21, h21]
                  (repeat refine sd ?_)
                  refine hK _ _ fun nx => ?_; clear hK K; try clear kk
                  refine awp_ret ?_; refine nmx ?_
                  obtain hR := Option.some.inj hh
                  subst hR
                  exact ret_p2
              · rw [if_neg h18] at hh
                replace h18 := Bool.eq_false_iff.mpr h18
                refine awp_first fun K kk hK => ?_
                simp only [go_sem, h11, h11, h12, h12, h13, h13, h14, h14, h16, h16, h18, h18]
                (repeat refine sd ?_)
                refine step_call2 (diptychref1_SameAll_ok _ _ _ h15) (by (try simp only [go_sem, h11, h11, h12, h12, h13, h13, h14, h14, h16, h16, h18, h18]) <;> exact wkl) (by rfl) (by rfl) ?_
                simp only [go_sem, h11, h11, h12, h12, h13, h13, h14, h14, h16, h16, h18, h18]
                (repeat refine sd ?_)
                refine step_call2 (node_Same_ok _ _ _ h17) (by (try simp only [go_sem, h11, h11, h12, h12, h13, h13, h14, h14, h16, h16, h18, h18]) <;> exact wkl) (by rfl) (by rfl) ?_
                simp only [go_sem, h11, h11, h12, h12, h13, h13, h14, h14, h16, h16, h18, h18]
                (repeat refine sd ?_)
                refine hK _ _ fun nx => ?_; clear hK K; try clear kk
                refine awp_ret ?_; refine nmx ?_
                obtain hR := Option.some.inj hh
                subst hR
                exact ret_p2
            · rw [if_neg h16] at hh
              replace h16 := Bool.eq_false_iff.mpr h16
              refine awp_first fun K kk hK => ?_
              simp only [go_sem, h11, h11, h12, h12, h13, h13, h14, h14, h16, h16]
              (repeat refine sd ?_)
              refine step_call2 (diptychref1_SameAll_ok _ _ _ h15) (by (try simp only [go_sem, h11, h11, h12, h12, h13, h13, h14, h14, h16, h16]) <;> exact wkl) (by rfl) (by rfl) ?_
              simp only [go_sem, h11, h11, h12, h12, h13, h13, h14, h14, h16, h16]
              (repeat refine sd ?_)
              refine hK _ _ fun nx => ?_; clear hK K; try clear kk
              refine awp_ret ?_; refine nmx ?_
              obtain hR := Option.some.inj hh
              subst hR
              exact ret_p2
          · rw [if_neg h14] at hh
            replace h14 := Bool.eq_false_iff.mpr h14
            refine awp_first fun K kk hK => ?_
            simp only [go_sem, h11, h11, h12, h12, h13, h13, h14, h14]
            (repeat refine sd ?_)
            refine hK _ _ fun nx => ?_; clear hK K; try clear kk
            refine awp_ret ?_; refine nmx ?_
            obtain hR := Option.some.inj hh
            subst hR
            exact ret_p2
        · rw [if_neg h13] at hh
          replace h13 := Bool.eq_false_iff.mpr h13
          refine awp_first fun K kk hK => ?_
          simp only [go_sem, h11, h11, h12, h12, h13, h13]
          (repeat refine sd ?_)
          refine hK _ _ fun nx => ?_; clear hK K; try clear kk
          refine awp_ret ?_; refine nmx ?_
          obtain hR := Option.some.inj hh
          subst hR
          exact ret_p2
      · rw [if_neg h12] at hh
        replace h12 := Bool.eq_false_iff.mpr h12
        refine awp_first fun K kk hK => ?_
        simp only [go_sem, h11, h11, h12, h12]
        (repeat refine sd ?_)
        refine hK _ _ fun nx => ?_; clear hK K; try clear kk
        refine awp_ret ?_; refine nmx ?_
        obtain hR := Option.some.inj hh
        subst hR
        exact ret_p2
    · rw [if_neg h11] at hh
      replace h11 := Bool.eq_false_iff.mpr h11
      refine awp_first fun K kk hK => ?_
      simp only [go_sem, h11, h11]
      (repeat refine sd ?_)
      refine hK _ _ fun nx => ?_; clear hK K; try clear kk
      refine awp_ret ?_; refine nmx ?_
      obtain hR := Option.some.inj hh
      subst hR
      exact ret_p2
theorem diptychlaw5_PieceSplit_ok (l_1 : (List diptychlaw5_Cell)) (at_2 : Int) (R : Bool) (hh : diptychlaw5_PieceSplit l_1 at_2 = some R) : PC Tryd.prog 6 [.list 3 (l_1.map diptychlaw5_Cell.pv), .int .i64 at_2] (.bool R) := by
  rw [diptychlaw5_PieceSplit] at hh
  refine start_diptychlaw5_PieceSplit rfl ?_
  refine awp_first fun K kk hK => ?_
  simp only [go_sem]
  refine hK _ _ fun nx => ?_; clear hK K; try clear kk
  obtain ⟨shown_3, h1, hh⟩ := bind_ex hh
  refine awp_first fun K kk hK => ?_
  simp only [go_sem]
  refine step_call2 (diptychlaw5_shown_ok _ h1) (by (try simp only [go_sem]) <;> exact wkl) (by rfl) (by rfl) ?_
  simp only [go_sem]
  refine hK _ _ fun nx => ?_; clear hK K; try clear kk
  refine awp_seq ?_
  refine awp_first fun K kk hK => ?_
  simp only [go_sem]
  refine hK _ _ fun nx => ?_; clear hK K; try clear kk
  by_cases h2 : (!shown_3) = true
  · rw [if_pos h2] at hh
    refine awp_true (by first | exact congrArg PV.bool h2 | rfl) ?_
    refine awp_first fun K kk hK => ?_
    simp only [go_sem]
    refine hK _ _ fun nx => ?_; clear hK K; try clear kk
    refine awp_ret ?_; refine nmx ?_
    obtain hR := Option.some.inj hh
    subst hR
    exact ret_p2
  · rw [if_neg h2] at hh
    replace h2 := Bool.eq_false_iff.mpr h2
    refine awp_false (by first | exact congrArg PV.bool h2 | rfl) ?_
    refine awp_skip ?_; refine nmx ?_
    obtain ⟨made_4, h3, hh⟩ := bind_ex hh
    refine awp_first fun K kk hK => ?_
    simp only [go_sem]
    refine step_call2 (diptychlaw5_made_ok _ _ h3) (by (try simp only [go_sem]) <;> exact wkl) (by rfl) (by rfl) ?_
    simp only [go_sem]
    refine hK _ _ fun nx => ?_; clear hK K; try clear kk
    obtain ⟨total_5, h4, hh⟩ := bind_ex hh
    obtain ⟨pick_6, h5, hh⟩ := bind_ex hh
    refine awp_first fun K kk hK => ?_
    simp only [go_sem]
    refine step_call2 (node_Total_ok _ _ h4) (by (try simp only [go_sem]) <;> exact wkl) (by rfl) (by rfl) ?_
    simp only [go_sem]
    refine step_call2 (diptychlaw5_pick_ok _ _ _ h5) (by (try simp only [go_sem]) <;> exact wkl) (by rfl) (by rfl) ?_
    simp only [go_sem]
    refine hK _ _ fun nx => ?_; clear hK K; try clear kk
    obtain ⟨⟨r_7, r_8, r_9⟩, h6, hh⟩ := bind_ex hh
    dsimp only at hh
    refine awp_first fun K kk hK => ?_
    simp only [go_sem]
    refine step_call2 (piece_Split_ok _ _ _ h6) (by (try simp only [go_sem]) <;> exact wkl) (by rfl) (by rfl) ?_
    simp only [go_sem]
    refine hK _ _ fun nx => ?_; clear hK K; try clear kk
    refine awp_seq ?_
    refine awp_first fun K kk hK => ?_
    simp only [go_sem]
    refine hK _ _ fun nx => ?_; clear hK K; try clear kk
    by_cases h7 : (r_9 != (0 : Int)) = true
    · rw [if_pos h7] at hh
      refine awp_true (by first | exact congrArg PV.bool h7 | rfl) ?_
      by_cases h8 : (r_9 == (10 : Int)) = true
      · rw [if_pos h8] at hh
        refine awp_first fun K kk hK => ?_
        simp only [go_sem, h8, h8]
        (repeat refine sd ?_)
        refine hK _ _ fun nx => ?_; clear hK K; try clear kk
        refine awp_ret ?_; refine nmx ?_
        obtain hR := Option.some.inj hh
        subst hR
        exact ret_p2
      · rw [if_neg h8] at hh
        replace h8 := Bool.eq_false_iff.mpr h8
        refine awp_first fun K kk hK => ?_
        simp only [go_sem, h8, h8]
        (repeat refine sd ?_)
        refine hK _ _ fun nx => ?_; clear hK K; try clear kk
        refine awp_ret ?_; refine nmx ?_
        obtain hR := Option.some.inj hh
        subst hR
        exact ret_p2
    · rw [if_neg h7] at hh
      replace h7 := Bool.eq_false_iff.mpr h7
      refine awp_false (by first | exact congrArg PV.bool h7 | rfl) ?_
      refine awp_skip ?_; refine nmx ?_
      obtain ⟨total_10, h9, hh⟩ := bind_ex hh
      by_cases h10 : (total_10 == pick_6) = true
      · rw [if_pos h10] at hh
        obtain ⟨total_11, h11, hh⟩ := bind_ex hh
        obtain ⟨total_12, h12, hh⟩ := bind_ex hh
        by_cases h13 : (total_11 == (w64 (total_12 - pick_6))) = true
        · rw [if_pos h13] at hh
          obtain ⟨l_13, h14, hh⟩ := bind_ex hh
          obtain ⟨h14a, h14c⟩ := app_some h14
          have h14d := app_map (f := api_Node.pv) h14c
          have h14e := app_len h14c
          try simp only [List.length_cons, List.length_nil, Nat.zero_add, Nat.reduceAdd] at h14a h14e
          try simp only [h14e] at h14a
          try simp only [List.map_cons, List.map_nil, List.nil_append, List.append_nil, List.cons_append, List.singleton_append, rune1, diptychlaw5_Cell.pv_eq, api_Attr.pv_eq, api_Node.pv_eq, place_Spot.pv_eq, piece_flat.pv_eq, diptychref4_Spot.pv_eq, token_Token.pv_eq, pvL] at h14d
          obtain ⟨l_14, h15, hh⟩ := bind_ex hh
          obtain ⟨h15a, h15c⟩ := app_some h15
          have h15d := app_map (f := api_Node.pv) h15c
          have h15e := app_len h15c
          try simp only [List.length_cons, List.length_nil, Nat.zero_add, Nat.reduceAdd] at h15a h15e
          try simp only [h15e] at h15a
          try simp only [List.map_cons, List.map_nil, List.nil_append, List.append_nil, List.cons_append, List.singleton_append, rune1, diptychlaw5_Cell.pv_eq, api_Attr.pv_eq, api_Node.pv_eq, place_Spot.pv_eq, piece_flat.pv_eq, diptychref4_Spot.pv_eq, token_Token.pv_eq, pvL] at h15d
          obtain ⟨join_15, h16, hh⟩ := bind_ex hh
          obtain ⟨sameal_16, h17, hh⟩ := bind_ex hh
          refine awp_first fun K kk hK => ?_
          simp only [go_sem, h10, h10, h13, h14a, h14d, h14e, h15a, h15d, h15e, h13]
          (repeat refine sd ?_)
          refine step_call2 (node_Total_ok _ _ h9) (by (try simp only [go_sem, h10, h10, h13, h14a, h14d, h14e, h15a, h15d, h15e, h13]) <;> exact wkl) (by rfl) (by rfl) ?_
          simp only [go_sem, h10, h10, h13, h14a, h14d, h14e, h15a, h15d, h15e, h13]
          (repeat refine sd ?_)
          refine step_call2 (node_Total_ok _ _ h11) (by (try simp only [go_sem, h10, h10, h13, h14a, h14d, h14e, h15a, h15d, h15e, h13]) <;> exact wkl) (by rfl) (by rfl) ?_
          simp only [go_sem, h10, h10, h13, h14a, h14d, h14e, h15a, h15d, h15e, h13]
          (repeat refine sd ?_)
          refine step_call2 (node_Total_ok _ _ h12) (by (try simp only [go_sem, h10, h10, h13, h14a, h14d, h14e, h15a, h15d, h15e, h13]) <;> exact wkl) (by rfl) (by rfl) ?_
          simp only [go_sem, h10, h10, h13, h14a, h14d, h14e, h15a, h15d, h15e, h13]
          (repeat refine sd ?_)
          refine step_call2 (node_Join_ok _ _ h16).list (by (try simp only [go_sem, h10, h10, h13, h14a, h14d, h14e, h15a, h15d, h15e, h13]) <;> exact wkl) (by rfl) (by rfl) ?_
          simp only [go_sem, h10, h10, h13, h14a, h14d, h14e, h15a, h15d, h15e, h13]
          (repeat refine sd ?_)
          refine step_call2 (diptychref1_SameAll_ok _ _ _ h17) (by (try simp only [go_sem, h10, h10, h13, h14a, h14d, h14e, h15a, h15d, h15e, h13]) <;> exact wkl) (by rfl) (by rfl) ?_
          simp only [go_sem, h10, h10, h13, h14a, h14d, h14e, h15a, h15d, h15e, h13]
          (repeat refine sd ?_)
          refine hK _ _ fun nx => ?_; clear hK K; try clear kk
          refine awp_ret ?_; refine nmx ?_
          obtain hR := Option.some.inj hh
          subst hR
          exact ret_p2
        · rw [if_neg h13] at hh
          replace h13 := Bool.eq_false_iff.mpr h13
          refine awp_first fun K kk hK => ?_
          simp only [go_sem, h10, h10, h13, h13]
          (repeat refine sd ?_)
          refine step_call2 (node_Total_ok _ _ h9) (by (try simp only [go_sem, h10, h10, h13, h13]) <;> exact wkl) (by rfl) (by rfl) ?_
          simp only [go_sem, h10, h10, h13, h13]
          (repeat refine sd ?_)
          refine step_call2 (node_Total_ok _ _ h11) (by (try simp only [go_sem, h10, h10, h13, h13]) <;> exact wkl) (by rfl) (by rfl) ?_
          simp only [go_sem, h10, h10, h13, h13]
          (repeat refine sd ?_)
          refine step_call2 (node_Total_ok _ _ h12) (by (try simp only [go_sem, h10, h10, h13, h13]) <;> exact wkl) (by rfl) (by rfl) ?_
          simp only [go_sem, h10, h10, h13, h13]
          (repeat refine sd ?_)
          refine hK _ _ fun nx => ?_; clear hK K; try clear kk
          refine awp_ret ?_; refine nmx ?_
          obtain hR := Option.some.inj hh
          subst hR
          exact ret_p2
      · rw [if_neg h10] at hh
        replace h10 := Bool.eq_false_iff.mpr h10
        refine awp_first fun K kk hK => ?_
        simp only [go_sem, h10, h10]
        (repeat refine sd ?_)
        refine step_call2 (node_Total_ok _ _ h9) (by (try simp only [go_sem, h10, h10]) <;> exact wkl) (by rfl) (by rfl) ?_
        simp only [go_sem, h10, h10]
        (repeat refine sd ?_)
        refine hK _ _ fun nx => ?_; clear hK K; try clear kk
        refine awp_ret ?_; refine nmx ?_
        obtain hR := Option.some.inj hh
        subst hR
        exact ret_p2

end Go.Proofs.YtblielhogcnnkaaDoor
