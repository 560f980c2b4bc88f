/- What the functions answer, the program answers (2). -/
import Derived.Test.YtlgjbmgmoaphjaaDoorAgC
import Derived.Test.YtlgjbmgmoaphjaaDoorAgF
import Derived.Test.YtlgjbmgmoaphjaaDoorAgK0
import Derived.Test.YtlgjbmgmoaphjaaDoorAgK1
namespace Go.Proofs.YtlgjbmgmoaphjaaDoor
set_option linter.unusedSimpArgs false
set_option linter.unusedVariables false
open Go
set_option maxRecDepth 100000

theorem diptychlaw1_NodeChecks_ok (n_1 : api_Node) (s_2 : Str) (R : Bool) (hh : diptychlaw1_NodeChecks n_1 s_2 = some R) : PC Tryd.prog 10 [.agg [.str n_1.Kind, .str n_1.Text, .list 1 (n_1.Marks.map PV.str), .list 2 (n_1.Attrs.map api_Attr.pv), .list 5 (n_1.Kids.map api_Node.pv)], .str s_2] (.bool R) := by
  rw [diptychlaw1_NodeChecks] at hh
  refine start_diptychlaw1_NodeChecks rfl ?_
  refine awp_first fun K kk hK => ?_
  simp only [go_sem]
  refine hK _ _ fun nx => ?_; clear hK K; try clear kk
  obtain ⟨shown_3, h1, hh⟩ := bind_ex hh
  refine awp_first fun K kk hK => ?_
  simp only [go_sem]
  refine step_call2 (diptychlaw1_shown_ok _ h1) (by try simp only [go_sem]; (repeat (first | exact WkL.refl _ | exact Wk.refl _ | exact Wk.nil _ | refine WkL.cons _ _ _ _ ?_ ?_ | exact WkL.nil | refine Wk.agg _ _ ?_ | refine Wk.tup _ _ ?_))) (by rfl) (by rfl) ?_
  simp only [go_sem]
  refine hK _ _ fun nx => ?_; clear hK K; try clear kk
  refine awp_seq ?_
  by_cases h2 : (!shown_3) = true
  · rw [if_pos h2] at hh
    refine awp_first fun K kk hK => ?_
    simp only [go_sem, h2, h2]
    (repeat (refine And.intro ?_ ?_; focus (first | assumption | (try simp only [List.length_append, List.length_cons, List.length_nil] at *; omega))))
    refine hK _ _ fun nx => ?_; clear hK K; try clear kk
    refine awp_true rfl ?_
    refine awp_first fun K kk hK => ?_
    simp only [go_sem]
    refine hK _ _ fun nx => ?_; clear hK K; try clear kk
    refine awp_ret ?_; (repeat (with_reducible first | refine then_n ?_ | refine then_r ?_ | refine then_e ?_ | refine block_n ?_ | refine block_r ?_ | refine exit_here ?_ | refine exit_on rfl ?_ | refine scope_n ?_ | refine scope_r ?_ | refine scope_e ?_ | refine cut_awp ?_))
    obtain hR := Option.some.inj hh
    subst hR
    refine ret_pure2 ?_ (by rfl)
    simp only [go_sem, rvsRes, rvRes, cellRes, tupOf, pur2, List.map_cons, List.map_append, List.head?_cons]
    (repeat (first | exact Wk.refl _ | exact WkL.refl _ | exact Wk.nil _ | refine Wk.agg _ _ ?_ | refine Wk.tup _ _ ?_ | refine WkL.cons _ _ _ _ ?_ ?_ | exact WkL.nil))
  · rw [if_neg h2] at hh
    replace h2 := Bool.eq_false_iff.mpr h2
    obtain ⟨light_4, h3, hh⟩ := bind_ex hh
    by_cases h4 : (decide (light_4 < (0 : Int))) = true
    · rw [if_pos h4] at hh
      refine awp_first fun K kk hK => ?_
      simp only [go_sem, h2, h2, h4, of_decide_eq_true h4, h4, of_decide_eq_true h4]
      (repeat (refine And.intro ?_ ?_; focus (first | assumption | (try simp only [List.length_append, List.length_cons, List.length_nil] at *; omega))))
      refine step_call2 (diptychlaw1_light_ok _ _ _ h3) (by try simp only [go_sem, h2, h2, h4, of_decide_eq_true h4, h4, of_decide_eq_true h4]; (repeat (first | exact WkL.refl _ | exact Wk.refl _ | exact Wk.nil _ | refine WkL.cons _ _ _ _ ?_ ?_ | exact WkL.nil | refine Wk.agg _ _ ?_ | refine Wk.tup _ _ ?_))) (by rfl) (by rfl) ?_
      simp only [go_sem, h2, h2, h4, of_decide_eq_true h4, h4, of_decide_eq_true h4]
      (repeat (refine And.intro ?_ ?_; focus (first | assumption | (try simp only [List.length_append, List.length_cons, List.length_nil] at *; omega))))
      refine hK _ _ fun nx => ?_; clear hK K; try clear kk
      refine awp_true rfl ?_
      refine awp_first fun K kk hK => ?_
      simp only [go_sem]
      refine hK _ _ fun nx => ?_; clear hK K; try clear kk
      refine awp_ret ?_; (repeat (with_reducible first | refine then_n ?_ | refine then_r ?_ | refine then_e ?_ | refine block_n ?_ | refine block_r ?_ | refine exit_here ?_ | refine exit_on rfl ?_ | refine scope_n ?_ | refine scope_r ?_ | refine scope_e ?_ | refine cut_awp ?_))
      obtain hR := Option.some.inj hh
      subst hR
      refine ret_pure2 ?_ (by rfl)
      simp only [go_sem, rvsRes, rvRes, cellRes, tupOf, pur2, List.map_cons, List.map_append, List.head?_cons]
      (repeat (first | exact Wk.refl _ | exact WkL.refl _ | exact Wk.nil _ | refine Wk.agg _ _ ?_ | refine Wk.tup _ _ ?_ | refine WkL.cons _ _ _ _ ?_ ?_ | exact WkL.nil))
    · rw [if_neg h4] at hh
      replace h4 := Bool.eq_false_iff.mpr h4
      refine awp_first fun K kk hK => ?_
      simp only [go_sem, h2, h2, h4, of_decide_eq_false h4, h4, of_decide_eq_false h4]
      (repeat (refine And.intro ?_ ?_; focus (first | assumption | (try simp only [List.length_append, List.length_cons, List.length_nil] at *; omega))))
      refine step_call2 (diptychlaw1_light_ok _ _ _ h3) (by try simp only [go_sem, h2, h2, h4, of_decide_eq_false h4, h4, of_decide_eq_false h4]; (repeat (first | exact WkL.refl _ | exact Wk.refl _ | exact Wk.nil _ | refine WkL.cons _ _ _ _ ?_ ?_ | exact WkL.nil | refine Wk.agg _ _ ?_ | refine Wk.tup _ _ ?_))) (by rfl) (by rfl) ?_
      simp only [go_sem, h2, h2, h4, of_decide_eq_false h4, h4, of_decide_eq_false h4]
      (repeat (refine And.intro ?_ ?_; focus (first | assumption | (try simp only [List.length_append, List.length_cons, List.length_nil] at *; omega))))
      refine hK _ _ fun nx => ?_; clear hK K; try clear kk
      by_cases h5 : (decide ((s_2.length : Int) > (500 : Int))) = true
      · rw [if_pos h5] at hh
        refine awp_true (by first | exact congrArg PV.bool h5 | rfl) ?_
        refine awp_first fun K kk hK => ?_
        simp only [go_sem]
        refine hK _ _ fun nx => ?_; clear hK K; try clear kk
        refine awp_ret ?_; (repeat (with_reducible first | refine then_n ?_ | refine then_r ?_ | refine then_e ?_ | refine block_n ?_ | refine block_r ?_ | refine exit_here ?_ | refine exit_on rfl ?_ | refine scope_n ?_ | refine scope_r ?_ | refine scope_e ?_ | refine cut_awp ?_))
        obtain hR := Option.some.inj hh
        subst hR
        refine ret_pure2 ?_ (by rfl)
        simp only [go_sem, rvsRes, rvRes, cellRes, tupOf, pur2, List.map_cons, List.map_append, List.head?_cons]
        (repeat (first | exact Wk.refl _ | exact WkL.refl _ | exact Wk.nil _ | refine Wk.agg _ _ ?_ | refine Wk.tup _ _ ?_ | refine WkL.cons _ _ _ _ ?_ ?_ | exact WkL.nil))
      · rw [if_neg h5] at hh
        replace h5 := Bool.eq_false_iff.mpr h5
        refine awp_false (by first | exact congrArg PV.bool h5 | rfl) ?_
        refine awp_skip ?_; (repeat (with_reducible first | refine then_n ?_ | refine then_r ?_ | refine then_e ?_ | refine block_n ?_ | refine block_r ?_ | refine exit_here ?_ | refine exit_on rfl ?_ | refine scope_n ?_ | refine scope_r ?_ | refine scope_e ?_ | refine cut_awp ?_))
        obtain ⟨name_5, h6, hh⟩ := bind_ex hh
        obtain ⟨name_6, h7, hh⟩ := bind_ex hh
        by_cases h8 : (((name_5 == name_6) != false)) = true
        · rw [if_pos h8] at hh
          obtain ⟨value_7, h9, hh⟩ := bind_ex hh
          obtain ⟨value_8, h10, hh⟩ := bind_ex hh
          by_cases h11 : (((value_7 == value_8) != false)) = true
          · rw [if_pos h11] at hh
            obtain ⟨check_9, h12, hh⟩ := bind_ex hh
            obtain ⟨check_10, h13, hh⟩ := bind_ex hh
            by_cases h14 : (check_9 == check_10) = true
            · rw [if_pos h14] at hh
              obtain ⟨right_11, h15, hh⟩ := bind_ex hh
              obtain ⟨check_12, h16, hh⟩ := bind_ex hh
              by_cases h17 : (((right_11 == (check_12 == (0 : Int))) != false)) = true
              · rw [if_pos h17] at hh
                obtain ⟨size_13, h18, hh⟩ := bind_ex hh
                obtain ⟨size_14, h19, hh⟩ := bind_ex hh
                by_cases h20 : (size_13 == size_14) = true
                · rw [if_pos h20] at hh
                  obtain ⟨depth_15, h21, hh⟩ := bind_ex hh
                  obtain ⟨depth_16, h22, hh⟩ := bind_ex hh
                  by_cases h23 : (depth_15 == depth_16) = true
                  · rw [if_pos h23] at hh
                    obtain ⟨words_17, h24, hh⟩ := bind_ex hh
                    obtain ⟨words_18, h25, hh⟩ := bind_ex hh
                    by_cases h26 : (words_17 == words_18) = true
                    · rw [if_pos h26] at hh
                      obtain ⟨total_19, h27, hh⟩ := bind_ex hh
                      obtain ⟨total_20, h28, hh⟩ := bind_ex hh
                      refine awp_first fun K kk hK => ?_
                      simp only [go_sem, h8, h8, h11, h11, h14, h14, h17, h17, h20, h20, h23, h23, h26, h26]
                      (repeat (refine And.intro ?_ ?_; focus (first | assumption | (try simp only [List.length_append, List.length_cons, List.length_nil] at *; omega))))
                      refine step_call2 (node_Name_ok _ _ h6) (by try simp only [go_sem, h8, h8, h11, h11, h14, h14, h17, h17, h20, h20, h23, h23, h26, h26]; (repeat (first | exact WkL.refl _ | exact Wk.refl _ | exact Wk.nil _ | refine WkL.cons _ _ _ _ ?_ ?_ | exact WkL.nil | refine Wk.agg _ _ ?_ | refine Wk.tup _ _ ?_))) (by rfl) (by rfl) ?_
                      simp only [go_sem, h8, h8, h11, h11, h14, h14, h17, h17, h20, h20, h23, h23, h26, h26]
                      (repeat (refine And.intro ?_ ?_; focus (first | assumption | (try simp only [List.length_append, List.length_cons, List.length_nil] at *; omega))))
                      refine step_call2 (diptychref1_Name_ok _ _ h7) (by try simp only [go_sem, h8, h8, h11, h11, h14, h14, h17, h17, h20, h20, h23, h23, h26, h26]; (repeat (first | exact WkL.refl _ | exact Wk.refl _ | exact Wk.nil _ | refine WkL.cons _ _ _ _ ?_ ?_ | exact WkL.nil | refine Wk.agg _ _ ?_ | refine Wk.tup _ _ ?_))) (by rfl) (by rfl) ?_
                      simp only [go_sem, h8, h8, h11, h11, h14, h14, h17, h17, h20, h20, h23, h23, h26, h26]
                      (repeat (refine And.intro ?_ ?_; focus (first | assumption | (try simp only [List.length_append, List.length_cons, List.length_nil] at *; omega))))
                      refine step_call2 (node_Value_ok _ _ h9) (by try simp only [go_sem, h8, h8, h11, h11, h14, h14, h17, h17, h20, h20, h23, h23, h26, h26]; (repeat (first | exact WkL.refl _ | exact Wk.refl _ | exact Wk.nil _ | refine WkL.cons _ _ _ _ ?_ ?_ | exact WkL.nil | refine Wk.agg _ _ ?_ | refine Wk.tup _ _ ?_))) (by rfl) (by rfl) ?_
                      simp only [go_sem, h8, h8, h11, h11, h14, h14, h17, h17, h20, h20, h23, h23, h26, h26]
                      (repeat (refine And.intro ?_ ?_; focus (first | assumption | (try simp only [List.length_append, List.length_cons, List.length_nil] at *; omega))))
                      refine step_call2 (diptychref1_Value_ok _ _ h10) (by try simp only [go_sem, h8, h8, h11, h11, h14, h14, h17, h17, h20, h20, h23, h23, h26, h26]; (repeat (first | exact WkL.refl _ | exact Wk.refl _ | exact Wk.nil _ | refine WkL.cons _ _ _ _ ?_ ?_ | exact WkL.nil | refine Wk.agg _ _ ?_ | refine Wk.tup _ _ ?_))) (by rfl) (by rfl) ?_
                      simp only [go_sem, h8, h8, h11, h11, h14, h14, h17, h17, h20, h20, h23, h23, h26, h26]
                      (repeat (refine And.intro ?_ ?_; focus (first | assumption | (try simp only [List.length_append, List.length_cons, List.length_nil] at *; omega))))
                      refine step_call2 (node_Check_ok _ _ h12) (by try simp only [go_sem, h8, h8, h11, h11, h14, h14, h17, h17, h20, h20, h23, h23, h26, h26]; (repeat (first | exact WkL.refl _ | exact Wk.refl _ | exact Wk.nil _ | refine WkL.cons _ _ _ _ ?_ ?_ | exact WkL.nil | refine Wk.agg _ _ ?_ | refine Wk.tup _ _ ?_))) (by rfl) (by rfl) ?_
                      simp only [go_sem, h8, h8, h11, h11, h14, h14, h17, h17, h20, h20, h23, h23, h26, h26]
                      (repeat (refine And.intro ?_ ?_; focus (first | assumption | (try simp only [List.length_append, List.length_cons, List.length_nil] at *; omega))))
                      refine step_call2 (diptychref1_Check_ok _ _ h13) (by try simp only [go_sem, h8, h8, h11, h11, h14, h14, h17, h17, h20, h20, h23, h23, h26, h26]; (repeat (first | exact WkL.refl _ | exact Wk.refl _ | exact Wk.nil _ | refine WkL.cons _ _ _ _ ?_ ?_ | exact WkL.nil | refine Wk.agg _ _ ?_ | refine Wk.tup _ _ ?_))) (by rfl) (by rfl) ?_
                      simp only [go_sem, h8, h8, h11, h11, h14, h14, h17, h17, h20, h20, h23, h23, h26, h26]
                      (repeat (refine And.intro ?_ ?_; focus (first | assumption | (try simp only [List.length_append, List.length_cons, List.length_nil] at *; omega))))
                      refine step_call2 (node_Right_ok _ _ h15) (by try simp only [go_sem, h8, h8, h11, h11, h14, h14, h17, h17, h20, h20, h23, h23, h26, h26]; (repeat (first | exact WkL.refl _ | exact Wk.refl _ | exact Wk.nil _ | refine WkL.cons _ _ _ _ ?_ ?_ | exact WkL.nil | refine Wk.agg _ _ ?_ | refine Wk.tup _ _ ?_))) (by rfl) (by rfl) ?_
                      simp only [go_sem, h8, h8, h11, h11, h14, h14, h17, h17, h20, h20, h23, h23, h26, h26]
                      (repeat (refine And.intro ?_ ?_; focus (first | assumption | (try simp only [List.length_append, List.length_cons, List.length_nil] at *; omega))))
                      refine step_call2 (diptychref1_Check_ok _ _ h16) (by try simp only [go_sem, h8, h8, h11, h11, h14, h14, h17, h17, h20, h20, h23, h23, h26, h26]; (repeat (first | exact WkL.refl _ | exact Wk.refl _ | exact Wk.nil _ | refine WkL.cons _ _ _ _ ?_ ?_ | exact WkL.nil | refine Wk.agg _ _ ?_ | refine Wk.tup _ _ ?_))) (by rfl) (by rfl) ?_
                      simp only [go_sem, h8, h8, h11, h11, h14, h14, h17, h17, h20, h20, h23, h23, h26, h26]
                      (repeat (refine And.intro ?_ ?_; focus (first | assumption | (try simp only [List.length_append, List.length_cons, List.length_nil] at *; omega))))
                      refine step_call2 (node_Size_ok _ _ h18) (by try simp only [go_sem, h8, h8, h11, h11, h14, h14, h17, h17, h20, h20, h23, h23, h26, h26]; (repeat (first | exact WkL.refl _ | exact Wk.refl _ | exact Wk.nil _ | refine WkL.cons _ _ _ _ ?_ ?_ | exact WkL.nil | refine Wk.agg _ _ ?_ | refine Wk.tup _ _ ?_))) (by rfl) (by rfl) ?_
                      simp only [go_sem, h8, h8, h11, h11, h14, h14, h17, h17, h20, h20, h23, h23, h26, h26]
                      (repeat (refine And.intro ?_ ?_; focus (first | assumption | (try simp only [List.length_append, List.length_cons, List.length_nil] at *; omega))))
                      refine step_call2 (diptychref1_Size_ok _ _ h19) (by try simp only [go_sem, h8, h8, h11, h11, h14, h14, h17, h17, h20, h20, h23, h23, h26, h26]; (repeat (first | exact WkL.refl _ | exact Wk.refl _ | exact Wk.nil _ | refine WkL.cons _ _ _ _ ?_ ?_ | exact WkL.nil | refine Wk.agg _ _ ?_ | refine Wk.tup _ _ ?_))) (by rfl) (by rfl) ?_
                      simp only [go_sem, h8, h8, h11, h11, h14, h14, h17, h17, h20, h20, h23, h23, h26, h26]
                      (repeat (refine And.intro ?_ ?_; focus (first | assumption | (try simp only [List.length_append, List.length_cons, List.length_nil] at *; omega))))
                      refine step_call2 (node_Depth_ok _ _ h21) (by try simp only [go_sem, h8, h8, h11, h11, h14, h14, h17, h17, h20, h20, h23, h23, h26, h26]; (repeat (first | exact WkL.refl _ | exact Wk.refl _ | exact Wk.nil _ | refine WkL.cons _ _ _ _ ?_ ?_ | exact WkL.nil | refine Wk.agg _ _ ?_ | refine Wk.tup _ _ ?_))) (by rfl) (by rfl) ?_
                      simp only [go_sem, h8, h8, h11, h11, h14, h14, h17, h17, h20, h20, h23, h23, h26, h26]
                      (repeat (refine And.intro ?_ ?_; focus (first | assumption | (try simp only [List.length_append, List.length_cons, List.length_nil] at *; omega))))
                      refine step_call2 (diptychref1_Depth_ok _ _ h22) (by try simp only [go_sem, h8, h8, h11, h11, h14, h14, h17, h17, h20, h20, h23, h23, h26, h26]; (repeat (first | exact WkL.refl _ | exact Wk.refl _ | exact Wk.nil _ | refine WkL.cons _ _ _ _ ?_ ?_ | exact WkL.nil | refine Wk.agg _ _ ?_ | refine Wk.tup _ _ ?_))) (by rfl) (by rfl) ?_
                      simp only [go_sem, h8, h8, h11, h11, h14, h14, h17, h17, h20, h20, h23, h23, h26, h26]
                      (repeat (refine And.intro ?_ ?_; focus (first | assumption | (try simp only [List.length_append, List.length_cons, List.length_nil] at *; omega))))
                      refine step_call2 (node_Words_ok _ _ h24) (by try simp only [go_sem, h8, h8, h11, h11, h14, h14, h17, h17, h20, h20, h23, h23, h26, h26]; (repeat (first | exact WkL.refl _ | exact Wk.refl _ | exact Wk.nil _ | refine WkL.cons _ _ _ _ ?_ ?_ | exact WkL.nil | refine Wk.agg _ _ ?_ | refine Wk.tup _ _ ?_))) (by rfl) (by rfl) ?_
                      simp only [go_sem, h8, h8, h11, h11, h14, h14, h17, h17, h20, h20, h23, h23, h26, h26]
                      (repeat (refine And.intro ?_ ?_; focus (first | assumption | (try simp only [List.length_append, List.length_cons, List.length_nil] at *; omega))))
                      refine step_call2 (diptychref1_Words_ok _ _ h25) (by try simp only [go_sem, h8, h8, h11, h11, h14, h14, h17, h17, h20, h20, h23, h23, h26, h26]; (repeat (first | exact WkL.refl _ | exact Wk.refl _ | exact Wk.nil _ | refine WkL.cons _ _ _ _ ?_ ?_ | exact WkL.nil | refine Wk.agg _ _ ?_ | refine Wk.tup _ _ ?_))) (by rfl) (by rfl) ?_
                      simp only [go_sem, h8, h8, h11, h11, h14, h14, h17, h17, h20, h20, h23, h23, h26, h26]
                      (repeat (refine And.intro ?_ ?_; focus (first | assumption | (try simp only [List.length_append, List.length_cons, List.length_nil] at *; omega))))
                      refine step_call2 (node_Total_ok _ _ h27) (by try simp only [go_sem, h8, h8, h11, h11, h14, h14, h17, h17, h20, h20, h23, h23, h26, h26]; (repeat (first | exact WkL.refl _ | exact Wk.refl _ | exact Wk.nil _ | refine WkL.cons _ _ _ _ ?_ ?_ | exact WkL.nil | refine Wk.agg _ _ ?_ | refine Wk.tup _ _ ?_))) (by rfl) (by rfl) ?_
                      simp only [go_sem, h8, h8, h11, h11, h14, h14, h17, h17, h20, h20, h23, h23, h26, h26]
                      (repeat (refine And.intro ?_ ?_; focus (first | assumption | (try simp only [List.length_append, List.length_cons, List.length_nil] at *; omega))))
                      refine step_call2 (diptychref1_Total_ok _ _ h28) (by try simp only [go_sem, h8, h8, h11, h11, h14, h14, h17, h17, h20, h20, h23, h23, h26, h26]; (repeat (first | exact WkL.refl _ | exact Wk.refl _ | exact Wk.nil _ | refine WkL.cons _ _ _ _ ?_ ?_ | exact WkL.nil | refine Wk.agg _ _ ?_ | refine Wk.tup _ _ ?_))) (by rfl) (by rfl) ?_
                      simp only [go_sem, h8, h8, h11, h11, h14, h14, h17, h17, h20, h20, h23, h23, h26, h26]
                      (repeat (refine And.intro ?_ ?_; focus (first | assumption | (try simp only [List.length_append, List.length_cons, List.length_nil] at *; omega))))
                      refine hK _ _ fun nx => ?_; clear hK K; try clear kk
                      refine awp_ret ?_; (repeat (with_reducible first | refine then_n ?_ | refine then_r ?_ | refine then_e ?_ | refine block_n ?_ | refine block_r ?_ | refine exit_here ?_ | refine exit_on rfl ?_ | refine scope_n ?_ | refine scope_r ?_ | refine scope_e ?_ | refine cut_awp ?_))
                      obtain hR := Option.some.inj hh
                      subst hR
                      refine ret_pure2 ?_ (by rfl)
                      simp only [go_sem, rvsRes, rvRes, cellRes, tupOf, pur2, List.map_cons, List.map_append, List.head?_cons]
                      (repeat (first | exact Wk.refl _ | exact WkL.refl _ | exact Wk.nil _ | refine Wk.agg _ _ ?_ | refine Wk.tup _ _ ?_ | refine WkL.cons _ _ _ _ ?_ ?_ | exact WkL.nil))
                    · rw [if_neg h26] at hh
                      replace h26 := Bool.eq_false_iff.mpr h26
                      refine awp_first fun K kk hK => ?_
                      simp only [go_sem, h8, h8, h11, h11, h14, h14, h17, h17, h20, h20, h23, h23, h26, h26]
                      (repeat (refine And.intro ?_ ?_; focus (first | assumption | (try simp only [List.length_append, List.length_cons, List.length_nil] at *; omega))))
                      refine step_call2 (node_Name_ok _ _ h6) (by try simp only [go_sem, h8, h8, h11, h11, h14, h14, h17, h17, h20, h20, h23, h23, h26, h26]; (repeat (first | exact WkL.refl _ | exact Wk.refl _ | exact Wk.nil _ | refine WkL.cons _ _ _ _ ?_ ?_ | exact WkL.nil | refine Wk.agg _ _ ?_ | refine Wk.tup _ _ ?_))) (by rfl) (by rfl) ?_
                      simp only [go_sem, h8, h8, h11, h11, h14, h14, h17, h17, h20, h20, h23, h23, h26, h26]
                      (repeat (refine And.intro ?_ ?_; focus (first | assumption | (try simp only [List.length_append, List.length_cons, List.length_nil] at *; omega))))
                      refine step_call2 (diptychref1_Name_ok _ _ h7) (by try simp only [go_sem, h8, h8, h11, h11, h14, h14, h17, h17, h20, h20, h23, h23, h26, h26]; (repeat (first | exact WkL.refl _ | exact Wk.refl _ | exact Wk.nil _ | refine WkL.cons _ _ _ _ ?_ ?_ | exact WkL.nil | refine Wk.agg _ _ ?_ | refine Wk.tup _ _ ?_))) (by rfl) (by rfl) ?_
                      simp only [go_sem, h8, h8, h11, h11, h14, h14, h17, h17, h20, h20, h23, h23, h26, h26]
                      (repeat (refine And.intro ?_ ?_; focus (first | assumption | (try simp only [List.length_append, List.length_cons, List.length_nil] at *; omega))))
                      refine step_call2 (node_Value_ok _ _ h9) (by try simp only [go_sem, h8, h8, h11, h11, h14, h14, h17, h17, h20, h20, h23, h23, h26, h26]; (repeat (first | exact WkL.refl _ | exact Wk.refl _ | exact Wk.nil _ | refine WkL.cons _ _ _ _ ?_ ?_ | exact WkL.nil | refine Wk.agg _ _ ?_ | refine Wk.tup _ _ ?_))) (by rfl) (by rfl) ?_
                      simp only [go_sem, h8, h8, h11, h11, h14, h14, h17, h17, h20, h20, h23, h23, h26, h26]
                      (repeat (refine And.intro ?_ ?_; focus (first | assumption | (try simp only [List.length_append, List.length_cons, List.length_nil] at *; omega))))
                      refine step_call2 (diptychref1_Value_ok _ _ h10) (by try simp only [go_sem, h8, h8, h11, h11, h14, h14, h17, h17, h20, h20, h23, h23, h26, h26]; (repeat (first | exact WkL.refl _ | exact Wk.refl _ | exact Wk.nil _ | refine WkL.cons _ _ _ _ ?_ ?_ | exact WkL.nil | refine Wk.agg _ _ ?_ | refine Wk.tup _ _ ?_))) (by rfl) (by rfl) ?_
                      simp only [go_sem, h8, h8, h11, h11, h14, h14, h17, h17, h20, h20, h23, h23, h26, h26]
                      (repeat (refine And.intro ?_ ?_; focus (first | assumption | (try simp only [List.length_append, List.length_cons, List.length_nil] at *; omega))))
                      refine step_call2 (node_Check_ok _ _ h12) (by try simp only [go_sem, h8, h8, h11, h11, h14, h14, h17, h17, h20, h20, h23, h23, h26, h26]; (repeat (first | exact WkL.refl _ | exact Wk.refl _ | exact Wk.nil _ | refine WkL.cons _ _ _ _ ?_ ?_ | exact WkL.nil | refine Wk.agg _ _ ?_ | refine Wk.tup _ _ ?_))) (by rfl) (by rfl) ?_
                      simp only [go_sem, h8, h8, h11, h11, h14, h14, h17, h17, h20, h20, h23, h23, h26, h26]
                      (repeat (refine And.intro ?_ ?_; focus (first | assumption | (try simp only [List.length_append, List.length_cons, List.length_nil] at *; omega))))
                      refine step_call2 (diptychref1_Check_ok _ _ h13) (by try simp only [go_sem, h8, h8, h11, h11, h14, h14, h17, h17, h20, h20, h23, h23, h26, h26]; (repeat (first | exact WkL.refl _ | exact Wk.refl _ | exact Wk.nil _ | refine WkL.cons _ _ _ _ ?_ ?_ | exact WkL.nil | refine Wk.agg _ _ ?_ | refine Wk.tup _ _ ?_))) (by rfl) (by rfl) ?_
                      simp only [go_sem, h8, h8, h11, h11, h14, h14, h17, h17, h20, h20, h23, h23, h26, h26]
                      (repeat (refine And.intro ?_ ?_; focus (first | assumption | (try simp only [List.length_append, List.length_cons, List.length_nil] at *; omega))))
                      refine step_call2 (node_Right_ok _ _ h15) (by try simp only [go_sem, h8, h8, h11, h11, h14, h14, h17, h17, h20, h20, h23, h23, h26, h26]; (repeat (first | exact WkL.refl _ | exact Wk.refl _ | exact Wk.nil _ | refine WkL.cons _ _ _ _ ?_ ?_ | exact WkL.nil | refine Wk.agg _ _ ?_ | refine Wk.tup _ _ ?_))) (by rfl) (by rfl) ?_
                      simp only [go_sem, h8, h8, h11, h11, h14, h14, h17, h17, h20, h20, h23, h23, h26, h26]
                      (repeat (refine And.intro ?_ ?_; focus (first | assumption | (try simp only [List.length_append, List.length_cons, List.length_nil] at *; omega))))
                      refine step_call2 (diptychref1_Check_ok _ _ h16) (by try simp only [go_sem, h8, h8, h11, h11, h14, h14, h17, h17, h20, h20, h23, h23, h26, h26]; (repeat (first | exact WkL.refl _ | exact Wk.refl _ | exact Wk.nil _ | refine WkL.cons _ _ _ _ ?_ ?_ | exact WkL.nil | refine Wk.agg _ _ ?_ | refine Wk.tup _ _ ?_))) (by rfl) (by rfl) ?_
                      simp only [go_sem, h8, h8, h11, h11, h14, h14, h17, h17, h20, h20, h23, h23, h26, h26]
                      (repeat (refine And.intro ?_ ?_; focus (first | assumption | (try simp only [List.length_append, List.length_cons, List.length_nil] at *; omega))))
                      refine step_call2 (node_Size_ok _ _ h18) (by try simp only [go_sem, h8, h8, h11, h11, h14, h14, h17, h17, h20, h20, h23, h23, h26, h26]; (repeat (first | exact WkL.refl _ | exact Wk.refl _ | exact Wk.nil _ | refine WkL.cons _ _ _ _ ?_ ?_ | exact WkL.nil | refine Wk.agg _ _ ?_ | refine Wk.tup _ _ ?_))) (by rfl) (by rfl) ?_
                      simp only [go_sem, h8, h8, h11, h11, h14, h14, h17, h17, h20, h20, h23, h23, h26, h26]
                      (repeat (refine And.intro ?_ ?_; focus (first | assumption | (try simp only [List.length_append, List.length_cons, List.length_nil] at *; omega))))
                      refine step_call2 (diptychref1_Size_ok _ _ h19) (by try simp only [go_sem, h8, h8, h11, h11, h14, h14, h17, h17, h20, h20, h23, h23, h26, h26]; (repeat (first | exact WkL.refl _ | exact Wk.refl _ | exact Wk.nil _ | refine WkL.cons _ _ _ _ ?_ ?_ | exact WkL.nil | refine Wk.agg _ _ ?_ | refine Wk.tup _ _ ?_))) (by rfl) (by rfl) ?_
                      simp only [go_sem, h8, h8, h11, h11, h14, h14, h17, h17, h20, h20, h23, h23, h26, h26]
                      (repeat (refine And.intro ?_ ?_; focus (first | assumption | (try simp only [List.length_append, List.length_cons, List.length_nil] at *; omega))))
                      refine step_call2 (node_Depth_ok _ _ h21) (by try simp only [go_sem, h8, h8, h11, h11, h14, h14, h17, h17, h20, h20, h23, h23, h26, h26]; (repeat (first | exact WkL.refl _ | exact Wk.refl _ | exact Wk.nil _ | refine WkL.cons _ _ _ _ ?_ ?_ | exact WkL.nil | refine Wk.agg _ _ ?_ | refine Wk.tup _ _ ?_))) (by rfl) (by rfl) ?_
                      simp only [go_sem, h8, h8, h11, h11, h14, h14, h17, h17, h20, h20, h23, h23, h26, h26]
                      (repeat (refine And.intro ?_ ?_; focus (first | assumption | (try simp only [List.length_append, List.length_cons, List.length_nil] at *; omega))))
                      refine step_call2 (diptychref1_Depth_ok _ _ h22) (by try simp only [go_sem, h8, h8, h11, h11, h14, h14, h17, h17, h20, h20, h23, h23, h26, h26]; (repeat (first | exact WkL.refl _ | exact Wk.refl _ | exact Wk.nil _ | refine WkL.cons _ _ _ _ ?_ ?_ | exact WkL.nil | refine Wk.agg _ _ ?_ | refine Wk.tup _ _ ?_))) (by rfl) (by rfl) ?_
                      simp only [go_sem, h8, h8, h11, h11, h14, h14, h17, h17, h20, h20, h23, h23, h26, h26]
                      (repeat (refine And.intro ?_ ?_; focus (first | assumption | (try simp only [List.length_append, List.length_cons, List.length_nil] at *; omega))))
                      refine step_call2 (node_Words_ok _ _ h24) (by try simp only [go_sem, h8, h8, h11, h11, h14, h14, h17, h17, h20, h20, h23, h23, h26, h26]; (repeat (first | exact WkL.refl _ | exact Wk.refl _ | exact Wk.nil _ | refine WkL.cons _ _ _ _ ?_ ?_ | exact WkL.nil | refine Wk.agg _ _ ?_ | refine Wk.tup _ _ ?_))) (by rfl) (by rfl) ?_
                      simp only [go_sem, h8, h8, h11, h11, h14, h14, h17, h17, h20, h20, h23, h23, h26, h26]
                      (repeat (refine And.intro ?_ ?_; focus (first | assumption | (try simp only [List.length_append, List.length_cons, List.length_nil] at *; omega))))
                      refine step_call2 (diptychref1_Words_ok _ _ h25) (by try simp only [go_sem, h8, h8, h11, h11, h14, h14, h17, h17, h20, h20, h23, h23, h26, h26]; (repeat (first | exact WkL.refl _ | exact Wk.refl _ | exact Wk.nil _ | refine WkL.cons _ _ _ _ ?_ ?_ | exact WkL.nil | refine Wk.agg _ _ ?_ | refine Wk.tup _ _ ?_))) (by rfl) (by rfl) ?_
                      simp only [go_sem, h8, h8, h11, h11, h14, h14, h17, h17, h20, h20, h23, h23, h26, h26]
                      (repeat (refine And.intro ?_ ?_; focus (first | assumption | (try simp only [List.length_append, List.length_cons, List.length_nil] at *; omega))))
                      refine hK _ _ fun nx => ?_; clear hK K; try clear kk
                      refine awp_ret ?_; (repeat (with_reducible first | refine then_n ?_ | refine then_r ?_ | refine then_e ?_ | refine block_n ?_ | refine block_r ?_ | refine exit_here ?_ | refine exit_on rfl ?_ | refine scope_n ?_ | refine scope_r ?_ | refine scope_e ?_ | refine cut_awp ?_))
                      obtain hR := Option.some.inj hh
                      subst hR
                      refine ret_pure2 ?_ (by rfl)
                      simp only [go_sem, rvsRes, rvRes, cellRes, tupOf, pur2, List.map_cons, List.map_append, List.head?_cons]
                      (repeat (first | exact Wk.refl _ | exact WkL.refl _ | exact Wk.nil _ | refine Wk.agg _ _ ?_ | refine Wk.tup _ _ ?_ | refine WkL.cons _ _ _ _ ?_ ?_ | exact WkL.nil))
                  · rw [if_neg h23] at hh
                    replace h23 := Bool.eq_false_iff.mpr h23
                    refine awp_first fun K kk hK => ?_
                    simp only [go_sem, h8, h8, h11, h11, h14, h14, h17, h17, h20, h20, h23, h23]
                    (repeat (refine And.intro ?_ ?_; focus (first | assumption | (try simp only [List.length_append, List.length_cons, List.length_nil] at *; omega))))
                    refine step_call2 (node_Name_ok _ _ h6) (by try simp only [go_sem, h8, h8, h11, h11, h14, h14, h17, h17, h20, h20, h23, h23]; (repeat (first | exact WkL.refl _ | exact Wk.refl _ | exact Wk.nil _ | refine WkL.cons _ _ _ _ ?_ ?_ | exact WkL.nil | refine Wk.agg _ _ ?_ | refine Wk.tup _ _ ?_))) (by rfl) (by rfl) ?_
                    simp only [go_sem, h8, h8, h11, h11, h14, h14, h17, h17, h20, h20, h23, h23]
                    (repeat (refine And.intro ?_ ?_; focus (first | assumption | (try simp only [List.length_append, List.length_cons, List.length_nil] at *; omega))))
                    refine step_call2 (diptychref1_Name_ok _ _ h7) (by try simp only [go_sem, h8, h8, h11, h11, h14, h14, h17, h17, h20, h20, h23, h23]; (repeat (first | exact WkL.refl _ | exact Wk.refl _ | exact Wk.nil _ | refine WkL.cons _ _ _ _ ?_ ?_ | exact WkL.nil | refine Wk.agg _ _ ?_ | refine Wk.tup _ _ ?_))) (by rfl) (by rfl) ?_
                    simp only [go_sem, h8, h8, h11, h11, h14, h14, h17, h17, h20, h20, h23, h23]
                    (repeat (refine And.intro ?_ ?_; focus (first | assumption | (try simp only [List.length_append, List.length_cons, List.length_nil] at *; omega))))
                    refine step_call2 (node_Value_ok _ _ h9) (by try simp only [go_sem, h8, h8, h11, h11, h14, h14, h17, h17, h20, h20, h23, h23]; (repeat (first | exact WkL.refl _ | exact Wk.refl _ | exact Wk.nil _ | refine WkL.cons _ _ _ _ ?_ ?_ | exact WkL.nil | refine Wk.agg _ _ ?_ | refine Wk.tup _ _ ?_))) (by rfl) (by rfl) ?_
                    simp only [go_sem, h8, h8, h11, h11, h14, h14, h17, h17, h20, h20, h23, h23]
                    (repeat (refine And.intro ?_ ?_; focus (first | assumption | (try simp only [List.length_append, List.length_cons, List.length_nil] at *; omega))))
                    refine step_call2 (diptychref1_Value_ok _ _ h10) (by try simp only [go_sem, h8, h8, h11, h11, h14, h14, h17, h17, h20, h20, h23, h23]; (repeat (first | exact WkL.refl _ | exact Wk.refl _ | exact Wk.nil _ | refine WkL.cons _ _ _ _ ?_ ?_ | exact WkL.nil | refine Wk.agg _ _ ?_ | refine Wk.tup _ _ ?_))) (by rfl) (by rfl) ?_
                    simp only [go_sem, h8, h8, h11, h11, h14, h14, h17, h17, h20, h20, h23, h23]
                    (repeat (refine And.intro ?_ ?_; focus (first | assumption | (try simp only [List.length_append, List.length_cons, List.length_nil] at *; omega))))
                    refine step_call2 (node_Check_ok _ _ h12) (by try simp only [go_sem, h8, h8, h11, h11, h14, h14, h17, h17, h20, h20, h23, h23]; (repeat (first | exact WkL.refl _ | exact Wk.refl _ | exact Wk.nil _ | refine WkL.cons _ _ _ _ ?_ ?_ | exact WkL.nil | refine Wk.agg _ _ ?_ | refine Wk.tup _ _ ?_))) (by rfl) (by rfl) ?_
                    simp only [go_sem, h8, h8, h11, h11, h14, h14, h17, h17, h20, h20, h23, h23]
                    (repeat (refine And.intro ?_ ?_; focus (first | assumption | (try simp only [List.length_append, List.length_cons, List.length_nil] at *; omega))))
                    refine step_call2 (diptychref1_Check_ok _ _ h13) (by try simp only [go_sem, h8, h8, h11, h11, h14, h14, h17, h17, h20, h20, h23, h23]; (repeat (first | exact WkL.refl _ | exact Wk.refl _ | exact Wk.nil _ | refine WkL.cons _ _ _ _ ?_ ?_ | exact WkL.nil | refine Wk.agg _ _ ?_ | refine Wk.tup _ _ ?_))) (by rfl) (by rfl) ?_
                    simp only [go_sem, h8, h8, h11, h11, h14, h14, h17, h17, h20, h20, h23, h23]
                    (repeat (refine And.intro ?_ ?_; focus (first | assumption | (try simp only [List.length_append, List.length_cons, List.length_nil] at *; omega))))
                    refine step_call2 (node_Right_ok _ _ h15) (by try simp only [go_sem, h8, h8, h11, h11, h14, h14, h17, h17, h20, h20, h23, h23]; (repeat (first | exact WkL.refl _ | exact Wk.refl _ | exact Wk.nil _ | refine WkL.cons _ _ _ _ ?_ ?_ | exact WkL.nil | refine Wk.agg _ _ ?_ | refine Wk.tup _ _ ?_))) (by rfl) (by rfl) ?_
                    simp only [go_sem, h8, h8, h11, h11, h14, h14, h17, h17, h20, h20, h23, h23]
                    (repeat (refine And.intro ?_ ?_; focus (first | assumption | (try simp only [List.length_append, List.length_cons, List.length_nil] at *; omega))))
                    refine step_call2 (diptychref1_Check_ok _ _ h16) (by try simp only [go_sem, h8, h8, h11, h11, h14, h14, h17, h17, h20, h20, h23, h23]; (repeat (first | exact WkL.refl _ | exact Wk.refl _ | exact Wk.nil _ | refine WkL.cons _ _ _ _ ?_ ?_ | exact WkL.nil | refine Wk.agg _ _ ?_ | refine Wk.tup _ _ ?_))) (by rfl) (by rfl) ?_
                    simp only [go_sem, h8, h8, h11, h11, h14, h14, h17, h17, h20, h20, h23, h23]
                    (repeat (refine And.intro ?_ ?_; focus (first | assumption | (try simp only [List.length_append, List.length_cons, List.length_nil] at *; omega))))
                    refine step_call2 (node_Size_ok _ _ h18) (by try simp only [go_sem, h8, h8, h11, h11, h14, h14, h17, h17, h20, h20, h23, h23]; (repeat (first | exact WkL.refl _ | exact Wk.refl _ | exact Wk.nil _ | refine WkL.cons _ _ _ _ ?_ ?_ | exact WkL.nil | refine Wk.agg _ _ ?_ | refine Wk.tup _ _ ?_))) (by rfl) (by rfl) ?_
                    simp only [go_sem, h8, h8, h11, h11, h14, h14, h17, h17, h20, h20, h23, h23]
                    (repeat (refine And.intro ?_ ?_; focus (first | assumption | (try simp only [List.length_append, List.length_cons, List.length_nil] at *; omega))))
                    refine step_call2 (diptychref1_Size_ok _ _ h19) (by try simp only [go_sem, h8, h8, h11, h11, h14, h14, h17, h17, h20, h20, h23, h23]; (repeat (first | exact WkL.refl _ | exact Wk.refl _ | exact Wk.nil _ | refine WkL.cons _ _ _ _ ?_ ?_ | exact WkL.nil | refine Wk.agg _ _ ?_ | refine Wk.tup _ _ ?_))) (by rfl) (by rfl) ?_
                    simp only [go_sem, h8, h8, h11, h11, h14, h14, h17, h17, h20, h20, h23, h23]
                    (repeat (refine And.intro ?_ ?_; focus (first | assumption | (try simp only [List.length_append, List.length_cons, List.length_nil] at *; omega))))
                    refine step_call2 (node_Depth_ok _ _ h21) (by try simp only [go_sem, h8, h8, h11, h11, h14, h14, h17, h17, h20, h20, h23, h23]; (repeat (first | exact WkL.refl _ | exact Wk.refl _ | exact Wk.nil _ | refine WkL.cons _ _ _ _ ?_ ?_ | exact WkL.nil | refine Wk.agg _ _ ?_ | refine Wk.tup _ _ ?_))) (by rfl) (by rfl) ?_
                    simp only [go_sem, h8, h8, h11, h11, h14, h14, h17, h17, h20, h20, h23, h23]
                    (repeat (refine And.intro ?_ ?_; focus (first | assumption | (try simp only [List.length_append, List.length_cons, List.length_nil] at *; omega))))
                    refine step_call2 (diptychref1_Depth_ok _ _ h22) (by try simp only [go_sem, h8, h8, h11, h11, h14, h14, h17, h17, h20, h20, h23, h23]; (repeat (first | exact WkL.refl _ | exact Wk.refl _ | exact Wk.nil _ | refine WkL.cons _ _ _ _ ?_ ?_ | exact WkL.nil | refine Wk.agg _ _ ?_ | refine Wk.tup _ _ ?_))) (by rfl) (by rfl) ?_
                    simp only [go_sem, h8, h8, h11, h11, h14, h14, h17, h17, h20, h20, h23, h23]
                    (repeat (refine And.intro ?_ ?_; focus (first | assumption | (try simp only [List.length_append, List.length_cons, List.length_nil] at *; omega))))
                    refine hK _ _ fun nx => ?_; clear hK K; try clear kk
                    refine awp_ret ?_; (repeat (with_reducible first | refine then_n ?_ | refine then_r ?_ | refine then_e ?_ | refine block_n ?_ | refine block_r ?_ | refine exit_here ?_ | refine exit_on rfl ?_ | refine scope_n ?_ | refine scope_r ?_ | refine scope_e ?_ | refine cut_awp ?_))
                    obtain hR := Option.some.inj hh
                    subst hR
                    refine ret_pure2 ?_ (by rfl)
                    simp only [go_sem, rvsRes, rvRes, cellRes, tupOf, pur2, List.map_cons, List.map_append, List.head?_cons]
                    (repeat (first | exact Wk.refl _ | exact WkL.refl _ | exact Wk.nil _ | refine Wk.agg _ _ ?_ | refine Wk.tup _ _ ?_ | refine WkL.cons _ _ _ _ ?_ ?_ | exact WkL.nil))
                · rw [if_neg h20] at hh
                  replace h20 := Bool.eq_false_iff.mpr h20
                  refine awp_first fun K kk hK => ?_
                  simp only [go_sem, h8, h8, h11, h11, h14, h14, h17, h17, h20, h20]
                  (repeat (refine And.intro ?_ ?_; focus (first | assumption | (try simp only [List.length_append, List.length_cons, List.length_nil] at *; omega))))
                  refine step_call2 (node_Name_ok _ _ h6) (by try simp only [go_sem, h8, h8, h11, h11, h14, h14, h17, h17, h20, h20]; (repeat (first | exact WkL.refl _ | exact Wk.refl _ | exact Wk.nil _ | refine WkL.cons _ _ _ _ ?_ ?_ | exact WkL.nil | refine Wk.agg _ _ ?_ | refine Wk.tup _ _ ?_))) (by rfl) (by rfl) ?_
                  simp only [go_sem, h8, h8, h11, h11, h14, h14, h17, h17, h20, h20]
                  (repeat (refine And.intro ?_ ?_; focus (first | assumption | (try simp only [List.length_append, List.length_cons, List.length_nil] at *; omega))))
                  refine step_call2 (diptychref1_Name_ok _ _ h7) (by try simp only [go_sem, h8, h8, h11, h11, h14, h14, h17, h17, h20, h20]; (repeat (first | exact WkL.refl _ | exact Wk.refl _ | exact Wk.nil _ | refine WkL.cons _ _ _ _ ?_ ?_ | exact WkL.nil | refine Wk.agg _ _ ?_ | refine Wk.tup _ _ ?_))) (by rfl) (by rfl) ?_
                  simp only [go_sem, h8, h8, h11, h11, h14, h14, h17, h17, h20, h20]
                  (repeat (refine And.intro ?_ ?_; focus (first | assumption | (try simp only [List.length_append, List.length_cons, List.length_nil] at *; omega))))
                  refine step_call2 (node_Value_ok _ _ h9) (by try simp only [go_sem, h8, h8, h11, h11, h14, h14, h17, h17, h20, h20]; (repeat (first | exact WkL.refl _ | exact Wk.refl _ | exact Wk.nil _ | refine WkL.cons _ _ _ _ ?_ ?_ | exact WkL.nil | refine Wk.agg _ _ ?_ | refine Wk.tup _ _ ?_))) (by rfl) (by rfl) ?_
                  simp only [go_sem, h8, h8, h11, h11, h14, h14, h17, h17, h20, h20]
                  (repeat (refine And.intro ?_ ?_; focus (first | assumption | (try simp only [List.length_append, List.length_cons, List.length_nil] at *; omega))))
                  refine step_call2 (diptychref1_Value_ok _ _ h10) (by try simp only [go_sem, h8, h8, h11, h11, h14, h14, h17, h17, h20, h20]; (repeat (first | exact WkL.refl _ | exact Wk.refl _ | exact Wk.nil _ | refine WkL.cons _ _ _ _ ?_ ?_ | exact WkL.nil | refine Wk.agg _ _ ?_ | refine Wk.tup _ _ ?_))) (by rfl) (by rfl) ?_
                  simp only [go_sem, h8, h8, h11, h11, h14, h14, h17, h17, h20, h20]
                  (repeat (refine And.intro ?_ ?_; focus (first | assumption | (try simp only [List.length_append, List.length_cons, List.length_nil] at *; omega))))
                  refine step_call2 (node_Check_ok _ _ h12) (by try simp only [go_sem, h8, h8, h11, h11, h14, h14, h17, h17, h20, h20]; (repeat (first | exact WkL.refl _ | exact Wk.refl _ | exact Wk.nil _ | refine WkL.cons _ _ _ _ ?_ ?_ | exact WkL.nil | refine Wk.agg _ _ ?_ | refine Wk.tup _ _ ?_))) (by rfl) (by rfl) ?_
                  simp only [go_sem, h8, h8, h11, h11, h14, h14, h17, h17, h20, h20]
                  (repeat (refine And.intro ?_ ?_; focus (first | assumption | (try simp only [List.length_append, List.length_cons, List.length_nil] at *; omega))))
                  refine step_call2 (diptychref1_Check_ok _ _ h13) (by try simp only [go_sem, h8, h8, h11, h11, h14, h14, h17, h17, h20, h20]; (repeat (first | exact WkL.refl _ | exact Wk.refl _ | exact Wk.nil _ | refine WkL.cons _ _ _ _ ?_ ?_ | exact WkL.nil | refine Wk.agg _ _ ?_ | refine Wk.tup _ _ ?_))) (by rfl) (by rfl) ?_
                  simp only [go_sem, h8, h8, h11, h11, h14, h14, h17, h17, h20, h20]
                  (repeat (refine And.intro ?_ ?_; focus (first | assumption | (try simp only [List.length_append, List.length_cons, List.length_nil] at *; omega))))
                  refine step_call2 (node_Right_ok _ _ h15) (by try simp only [go_sem, h8, h8, h11, h11, h14, h14, h17, h17, h20, h20]; (repeat (first | exact WkL.refl _ | exact Wk.refl _ | exact Wk.nil _ | refine WkL.cons _ _ _ _ ?_ ?_ | exact WkL.nil | refine Wk.agg _ _ ?_ | refine Wk.tup _ _ ?_))) (by rfl) (by rfl) ?_
                  simp only [go_sem, h8, h8, h11, h11, h14, h14, h17, h17, h20, h20]
                  (repeat (refine And.intro ?_ ?_; focus (first | assumption | (try simp only [List.length_append, List.length_cons, List.length_nil] at *; omega))))
                  refine step_call2 (diptychref1_Check_ok _ _ h16) (by try simp only [go_sem, h8, h8, h11, h11, h14, h14, h17, h17, h20, h20]; (repeat (first | exact WkL.refl _ | exact Wk.refl _ | exact Wk.nil _ | refine WkL.cons _ _ _ _ ?_ ?_ | exact WkL.nil | refine Wk.agg _ _ ?_ | refine Wk.tup _ _ ?_))) (by rfl) (by rfl) ?_
                  simp only [go_sem, h8, h8, h11, h11, h14, h14, h17, h17, h20, h20]
                  (repeat (refine And.intro ?_ ?_; focus (first | assumption | (try simp only [List.length_append, List.length_cons, List.length_nil] at *; omega))))
                  refine step_call2 (node_Size_ok _ _ h18) (by try simp only [go_sem, h8, h8, h11, h11, h14, h14, h17, h17, h20, h20]; (repeat (first | exact WkL.refl _ | exact Wk.refl _ | exact Wk.nil _ | refine WkL.cons _ _ _ _ ?_ ?_ | exact WkL.nil | refine Wk.agg _ _ ?_ | refine Wk.tup _ _ ?_))) (by rfl) (by rfl) ?_
                  simp only [go_sem, h8, h8, h11, h11, h14, h14, h17, h17, h20, h20]
                  (repeat (refine And.intro ?_ ?_; focus (first | assumption | (try simp only [List.length_append, List.length_cons, List.length_nil] at *; omega))))
                  refine step_call2 (diptychref1_Size_ok _ _ h19) (by try simp only [go_sem, h8, h8, h11, h11, h14, h14, h17, h17, h20, h20]; (repeat (first | exact WkL.refl _ | exact Wk.refl _ | exact Wk.nil _ | refine WkL.cons _ _ _ _ ?_ ?_ | exact WkL.nil | refine Wk.agg _ _ ?_ | refine Wk.tup _ _ ?_))) (by rfl) (by rfl) ?_
                  simp only [go_sem, h8, h8, h11, h11, h14, h14, h17, h17, h20, h20]
                  (repeat (refine And.intro ?_ ?_; focus (first | assumption | (try simp only [List.length_append, List.length_cons, List.length_nil] at *; omega))))
                  refine hK _ _ fun nx => ?_; clear hK K; try clear kk
                  refine awp_ret ?_; (repeat (with_reducible first | refine then_n ?_ | refine then_r ?_ | refine then_e ?_ | refine block_n ?_ | refine block_r ?_ | refine exit_here ?_ | refine exit_on rfl ?_ | refine scope_n ?_ | refine scope_r ?_ | refine scope_e ?_ | refine cut_awp ?_))
                  obtain hR := Option.some.inj hh
                  subst hR
                  refine ret_pure2 ?_ (by rfl)
                  simp only [go_sem, rvsRes, rvRes, cellRes, tupOf, pur2, List.map_cons, List.map_append, List.head?_cons]
                  (repeat (first | exact Wk.refl _ | exact WkL.refl _ | exact Wk.nil _ | refine Wk.agg _ _ ?_ | refine Wk.tup _ _ ?_ | refine WkL.cons _ _ _ _ ?_ ?_ | exact WkL.nil))
              · rw [if_neg h17] at hh
                replace h17 := Bool.eq_false_iff.mpr h17
                refine awp_first fun K kk hK => ?_
                simp only [go_sem, h8, h8, h11, h11, h14, h14, h17, h17]
                (repeat (refine And.intro ?_ ?_; focus (first | assumption | (try simp only [List.length_append, List.length_cons, List.length_nil] at *; omega))))
                refine step_call2 (node_Name_ok _ _ h6) (by try simp only [go_sem, h8, h8, h11, h11, h14, h14, h17, h17]; (repeat (first | exact WkL.refl _ | exact Wk.refl _ | exact Wk.nil _ | refine WkL.cons _ _ _ _ ?_ ?_ | exact WkL.nil | refine Wk.agg _ _ ?_ | refine Wk.tup _ _ ?_))) (by rfl) (by rfl) ?_
                simp only [go_sem, h8, h8, h11, h11, h14, h14, h17, h17]
                (repeat (refine And.intro ?_ ?_; focus (first | assumption | (try simp only [List.length_append, List.length_cons, List.length_nil] at *; omega))))
                refine step_call2 (diptychref1_Name_ok _ _ h7) (by try simp only [go_sem, h8, h8, h11, h11, h14, h14, h17, h17]; (repeat (first | exact WkL.refl _ | exact Wk.refl _ | exact Wk.nil _ | refine WkL.cons _ _ _ _ ?_ ?_ | exact WkL.nil | refine Wk.agg _ _ ?_ | refine Wk.tup _ _ ?_))) (by rfl) (by rfl) ?_
                simp only [go_sem, h8, h8, h11, h11, h14, h14, h17, h17]
                (repeat (refine And.intro ?_ ?_; focus (first | assumption | (try simp only [List.length_append, List.length_cons, List.length_nil] at *; omega))))
                refine step_call2 (node_Value_ok _ _ h9) (by try simp only [go_sem, h8, h8, h11, h11, h14, h14, h17, h17]; (repeat (first | exact WkL.refl _ | exact Wk.refl _ | exact Wk.nil _ | refine WkL.cons _ _ _ _ ?_ ?_ | exact WkL.nil | refine Wk.agg _ _ ?_ | refine Wk.tup _ _ ?_))) (by rfl) (by rfl) ?_
                simp only [go_sem, h8, h8, h11, h11, h14, h14, h17, h17]
                (repeat (refine And.intro ?_ ?_; focus (first | assumption | (try simp only [List.length_append, List.length_cons, List.length_nil] at *; omega))))
                refine step_call2 (diptychref1_Value_ok _ _ h10) (by try simp only [go_sem, h8, h8, h11, h11, h14, h14, h17, h17]; (repeat (first | exact WkL.refl _ | exact Wk.refl _ | exact Wk.nil _ | refine WkL.cons _ _ _ _ ?_ ?_ | exact WkL.nil | refine Wk.agg _ _ ?_ | refine Wk.tup _ _ ?_))) (by rfl) (by rfl) ?_
                simp only [go_sem, h8, h8, h11, h11, h14, h14, h17, h17]
                (repeat (refine And.intro ?_ ?_; focus (first | assumption | (try simp only [List.length_append, List.length_cons, List.length_nil] at *; omega))))
                refine step_call2 (node_Check_ok _ _ h12) (by try simp only [go_sem, h8, h8, h11, h11, h14, h14, h17, h17]; (repeat (first | exact WkL.refl _ | exact Wk.refl _ | exact Wk.nil _ | refine WkL.cons _ _ _ _ ?_ ?_ | exact WkL.nil | refine Wk.agg _ _ ?_ | refine Wk.tup _ _ ?_))) (by rfl) (by rfl) ?_
                simp only [go_sem, h8, h8, h11, h11, h14, h14, h17, h17]
                (repeat (refine And.intro ?_ ?_; focus (first | assumption | (try simp only [List.length_append, List.length_cons, List.length_nil] at *; omega))))
                refine step_call2 (diptychref1_Check_ok _ _ h13) (by try simp only [go_sem, h8, h8, h11, h11, h14, h14, h17, h17]; (repeat (first | exact WkL.refl _ | exact Wk.refl _ | exact Wk.nil _ | refine WkL.cons _ _ _ _ ?_ ?_ | exact WkL.nil | refine Wk.agg _ _ ?_ | refine Wk.tup _ _ ?_))) (by rfl) (by rfl) ?_
                simp only [go_sem, h8, h8, h11, h11, h14, h14, h17, h17]
                (repeat (refine And.intro ?_ ?_; focus (first | assumption | (try simp only [List.length_append, List.length_cons, List.length_nil] at *; omega))))
                refine step_call2 (node_Right_ok _ _ h15) (by try simp only [go_sem, h8, h8, h11, h11, h14, h14, h17, h17]; (repeat (first | exact WkL.refl _ | exact Wk.refl _ | exact Wk.nil _ | refine WkL.cons _ _ _ _ ?_ ?_ | exact WkL.nil | refine Wk.agg _ _ ?_ | refine Wk.tup _ _ ?_))) (by rfl) (by rfl) ?_
                simp only [go_sem, h8, h8, h11, h11, h14, h14, h17, h17]
                (repeat (refine And.intro ?_ ?_; focus (first | assumption | (try simp only [List.length_append, List.length_cons, List.length_nil] at *; omega))))
                refine step_call2 (diptychref1_Check_ok _ _ h16) (by try simp only [go_sem, h8, h8, h11, h11, h14, h14, h17, h17]; (repeat (first | exact WkL.refl _ | exact Wk.refl _ | exact Wk.nil _ | refine WkL.cons _ _ _ _ ?_ ?_ | exact WkL.nil | refine Wk.agg _ _ ?_ | refine Wk.tup _ _ ?_))) (by rfl) (by rfl) ?_
                simp only [go_sem, h8, h8, h11, h11, h14, h14, h17, h17]
                (repeat (refine And.intro ?_ ?_; focus (first | assumption | (try simp only [List.length_append, List.length_cons, List.length_nil] at *; omega))))
                refine hK _ _ fun nx => ?_; clear hK K; try clear kk
                refine awp_ret ?_; (repeat (with_reducible first | refine then_n ?_ | refine then_r ?_ | refine then_e ?_ | refine block_n ?_ | refine block_r ?_ | refine exit_here ?_ | refine exit_on rfl ?_ | refine scope_n ?_ | refine scope_r ?_ | refine scope_e ?_ | refine cut_awp ?_))
                obtain hR := Option.some.inj hh
                subst hR
                refine ret_pure2 ?_ (by rfl)
                simp only [go_sem, rvsRes, rvRes, cellRes, tupOf, pur2, List.map_cons, List.map_append, List.head?_cons]
                (repeat (first | exact Wk.refl _ | exact WkL.refl _ | exact Wk.nil _ | refine Wk.agg _ _ ?_ | refine Wk.tup _ _ ?_ | refine WkL.cons _ _ _ _ ?_ ?_ | exact WkL.nil))
            · rw [if_neg h14] at hh
              replace h14 := Bool.eq_false_iff.mpr h14
              refine awp_first fun K kk hK => ?_
              simp only [go_sem, h8, h8, h11, h11, h14, h14]
              (repeat (refine And.intro ?_ ?_; focus (first | assumption | (try simp only [List.length_append, List.length_cons, List.length_nil] at *; omega))))
              refine step_call2 (node_Name_ok _ _ h6) (by try simp only [go_sem, h8, h8, h11, h11, h14, h14]; (repeat (first | exact WkL.refl _ | exact Wk.refl _ | exact Wk.nil _ | refine WkL.cons _ _ _ _ ?_ ?_ | exact WkL.nil | refine Wk.agg _ _ ?_ | refine Wk.tup _ _ ?_))) (by rfl) (by rfl) ?_
              simp only [go_sem, h8, h8, h11, h11, h14, h14]
              (repeat (refine And.intro ?_ ?_; focus (first | assumption | (try simp only [List.length_append, List.length_cons, List.length_nil] at *; omega))))
              refine step_call2 (diptychref1_Name_ok _ _ h7) (by try simp only [go_sem, h8, h8, h11, h11, h14, h14]; (repeat (first | exact WkL.refl _ | exact Wk.refl _ | exact Wk.nil _ | refine WkL.cons _ _ _ _ ?_ ?_ | exact WkL.nil | refine Wk.agg _ _ ?_ | refine Wk.tup _ _ ?_))) (by rfl) (by rfl) ?_
              simp only [go_sem, h8, h8, h11, h11, h14, h14]
              (repeat (refine And.intro ?_ ?_; focus (first | assumption | (try simp only [List.length_append, List.length_cons, List.length_nil] at *; omega))))
              refine step_call2 (node_Value_ok _ _ h9) (by try simp only [go_sem, h8, h8, h11, h11, h14, h14]; (repeat (first | exact WkL.refl _ | exact Wk.refl _ | exact Wk.nil _ | refine WkL.cons _ _ _ _ ?_ ?_ | exact WkL.nil | refine Wk.agg _ _ ?_ | refine Wk.tup _ _ ?_))) (by rfl) (by rfl) ?_
              simp only [go_sem, h8, h8, h11, h11, h14, h14]
              (repeat (refine And.intro ?_ ?_; focus (first | assumption | (try simp only [List.length_append, List.length_cons, List.length_nil] at *; omega))))
              refine step_call2 (diptychref1_Value_ok _ _ h10) (by try simp only [go_sem, h8, h8, h11, h11, h14, h14]; (repeat (first | exact WkL.refl _ | exact Wk.refl _ | exact Wk.nil _ | refine WkL.cons _ _ _ _ ?_ ?_ | exact WkL.nil | refine Wk.agg _ _ ?_ | refine Wk.tup _ _ ?_))) (by rfl) (by rfl) ?_
              simp only [go_sem, h8, h8, h11, h11, h14, h14]
              (repeat (refine And.intro ?_ ?_; focus (first | assumption | (try simp only [List.length_append, List.length_cons, List.length_nil] at *; omega))))
              refine step_call2 (node_Check_ok _ _ h12) (by try simp only [go_sem, h8, h8, h11, h11, h14, h14]; (repeat (first | exact WkL.refl _ | exact Wk.refl _ | exact Wk.nil _ | refine WkL.cons _ _ _ _ ?_ ?_ | exact WkL.nil | refine Wk.agg _ _ ?_ | refine Wk.tup _ _ ?_))) (by rfl) (by rfl) ?_
              simp only [go_sem, h8, h8, h11, h11, h14, h14]
              (repeat (refine And.intro ?_ ?_; focus (first | assumption | (try simp only [List.length_append, List.length_cons, List.length_nil] at *; omega))))
              refine step_call2 (diptychref1_Check_ok _ _ h13) (by try simp only [go_sem, h8, h8, h11, h11, h14, h14]; (repeat (first | exact WkL.refl _ | exact Wk.refl _ | exact Wk.nil _ | refine WkL.cons _ _ _ _ ?_ ?_ | exact WkL.nil | refine Wk.agg _ _ ?_ | refine Wk.tup _ _ ?_))) (by rfl) (by rfl) ?_
              simp only [go_sem, h8, h8, h11, h11, h14, h14]
              (repeat (refine And.intro ?_ ?_; focus (first | assumption | (try simp only [List.length_append, List.length_cons, List.length_nil] at *; omega))))
              refine hK _ _ fun nx => ?_; clear hK K; try clear kk
              refine awp_ret ?_; (repeat (with_reducible first | refine then_n ?_ | refine then_r ?_ | refine then_e ?_ | refine block_n ?_ | refine block_r ?_ | refine exit_here ?_ | refine exit_on rfl ?_ | refine scope_n ?_ | refine scope_r ?_ | refine scope_e ?_ | refine cut_awp ?_))
              obtain hR := Option.some.inj hh
              subst hR
              refine ret_pure2 ?_ (by rfl)
              simp only [go_sem, rvsRes, rvRes, cellRes, tupOf, pur2, List.map_cons, List.map_append, List.head?_cons]
              (repeat (first | exact Wk.refl _ | exact WkL.refl _ | exact Wk.nil _ | refine Wk.agg _ _ ?_ | refine Wk.tup _ _ ?_ | refine WkL.cons _ _ _ _ ?_ ?_ | exact WkL.nil))
          · rw [if_neg h11] at hh
            replace h11 := Bool.eq_false_iff.mpr h11
            refine awp_first fun K kk hK => ?_
            simp only [go_sem, h8, h8, h11, h11]
            (repeat (refine And.intro ?_ ?_; focus (first | assumption | (try simp only [List.length_append, List.length_cons, List.length_nil] at *; omega))))
            refine step_call2 (node_Name_ok _ _ h6) (by try simp only [go_sem, h8, h8, h11, h11]; (repeat (first | exact WkL.refl _ | exact Wk.refl _ | exact Wk.nil _ | refine WkL.cons _ _ _ _ ?_ ?_ | exact WkL.nil | refine Wk.agg _ _ ?_ | refine Wk.tup _ _ ?_))) (by rfl) (by rfl) ?_
            simp only [go_sem, h8, h8, h11, h11]
            (repeat (refine And.intro ?_ ?_; focus (first | assumption | (try simp only [List.length_append, List.length_cons, List.length_nil] at *; omega))))
            refine step_call2 (diptychref1_Name_ok _ _ h7) (by try simp only [go_sem, h8, h8, h11, h11]; (repeat (first | exact WkL.refl _ | exact Wk.refl _ | exact Wk.nil _ | refine WkL.cons _ _ _ _ ?_ ?_ | exact WkL.nil | refine Wk.agg _ _ ?_ | refine Wk.tup _ _ ?_))) (by rfl) (by rfl) ?_
            simp only [go_sem, h8, h8, h11, h11]
            (repeat (refine And.intro ?_ ?_; focus (first | assumption | (try simp only [List.length_append, List.length_cons, List.length_nil] at *; omega))))
            refine step_call2 (node_Value_ok _ _ h9) (by try simp only [go_sem, h8, h8, h11, h11]; (repeat (first | exact WkL.refl _ | exact Wk.refl _ | exact Wk.nil _ | refine WkL.cons _ _ _ _ ?_ ?_ | exact WkL.nil | refine Wk.agg _ _ ?_ | refine Wk.tup _ _ ?_))) (by rfl) (by rfl) ?_
            simp only [go_sem, h8, h8, h11, h11]
            (repeat (refine And.intro ?_ ?_; focus (first | assumption | (try simp only [List.length_append, List.length_cons, List.length_nil] at *; omega))))
            refine step_call2 (diptychref1_Value_ok _ _ h10) (by try simp only [go_sem, h8, h8, h11, h11]; (repeat (first | exact WkL.refl _ | exact Wk.refl _ | exact Wk.nil _ | refine WkL.cons _ _ _ _ ?_ ?_ | exact WkL.nil | refine Wk.agg _ _ ?_ | refine Wk.tup _ _ ?_))) (by rfl) (by rfl) ?_
            simp only [go_sem, h8, h8, h11, h11]
            (repeat (refine And.intro ?_ ?_; focus (first | assumption | (try simp only [List.length_append, List.length_cons, List.length_nil] at *; omega))))
            refine hK _ _ fun nx => ?_; clear hK K; try clear kk
            refine awp_ret ?_; (repeat (with_reducible first | refine then_n ?_ | refine then_r ?_ | refine then_e ?_ | refine block_n ?_ | refine block_r ?_ | refine exit_here ?_ | refine exit_on rfl ?_ | refine scope_n ?_ | refine scope_r ?_ | refine scope_e ?_ | refine cut_awp ?_))
            obtain hR := Option.some.inj hh
            subst hR
            refine ret_pure2 ?_ (by rfl)
            simp only [go_sem, rvsRes, rvRes, cellRes, tupOf, pur2, List.map_cons, List.map_append, List.head?_cons]
            (repeat (first | exact Wk.refl _ | exact WkL.refl _ | exact Wk.nil _ | refine Wk.agg _ _ ?_ | refine Wk.tup _ _ ?_ | refine WkL.cons _ _ _ _ ?_ ?_ | exact WkL.nil))
        · rw [if_neg h8] at hh
          replace h8 := Bool.eq_false_iff.mpr h8
          refine awp_first fun K kk hK => ?_
          simp only [go_sem, h8, h8]
          (repeat (refine And.intro ?_ ?_; focus (first | assumption | (try simp only [List.length_append, List.length_cons, List.length_nil] at *; omega))))
          refine step_call2 (node_Name_ok _ _ h6) (by try simp only [go_sem, h8, h8]; (repeat (first | exact WkL.refl _ | exact Wk.refl _ | exact Wk.nil _ | refine WkL.cons _ _ _ _ ?_ ?_ | exact WkL.nil | refine Wk.agg _ _ ?_ | refine Wk.tup _ _ ?_))) (by rfl) (by rfl) ?_
          simp only [go_sem, h8, h8]
          (repeat (refine And.intro ?_ ?_; focus (first | assumption | (try simp only [List.length_append, List.length_cons, List.length_nil] at *; omega))))
          refine step_call2 (diptychref1_Name_ok _ _ h7) (by try simp only [go_sem, h8, h8]; (repeat (first | exact WkL.refl _ | exact Wk.refl _ | exact Wk.nil _ | refine WkL.cons _ _ _ _ ?_ ?_ | exact WkL.nil | refine Wk.agg _ _ ?_ | refine Wk.tup _ _ ?_))) (by rfl) (by rfl) ?_
          simp only [go_sem, h8, h8]
          (repeat (refine And.intro ?_ ?_; focus (first | assumption | (try simp only [List.length_append, List.length_cons, List.length_nil] at *; omega))))
          refine hK _ _ fun nx => ?_; clear hK K; try clear kk
          refine awp_ret ?_; (repeat (with_reducible first | refine then_n ?_ | refine then_r ?_ | refine then_e ?_ | refine block_n ?_ | refine block_r ?_ | refine exit_here ?_ | refine exit_on rfl ?_ | refine scope_n ?_ | refine scope_r ?_ | refine scope_e ?_ | refine cut_awp ?_))
          obtain hR := Option.some.inj hh
          subst hR
          refine ret_pure2 ?_ (by rfl)
          simp only [go_sem, rvsRes, rvRes, cellRes, tupOf, pur2, List.map_cons, List.map_append, List.head?_cons]
          (repeat (first | exact Wk.refl _ | exact WkL.refl _ | exact Wk.nil _ | refine Wk.agg _ _ ?_ | refine Wk.tup _ _ ?_ | refine WkL.cons _ _ _ _ ?_ ?_ | exact WkL.nil))

end Go.Proofs.YtlgjbmgmoaphjaaDoor
