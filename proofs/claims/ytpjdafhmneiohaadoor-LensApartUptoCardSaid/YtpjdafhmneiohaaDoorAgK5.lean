/- What the functions answer, the program answers (5). -/
import Derived.Test.YtpjdafhmneiohaaDoorAgC
import Derived.Test.YtpjdafhmneiohaaDoorAgF
import Derived.Test.YtpjdafhmneiohaaDoorAgK1
import Derived.Test.YtpjdafhmneiohaaDoorAgK2
import Derived.Test.YtpjdafhmneiohaaDoorAgK3
import Derived.Test.YtpjdafhmneiohaaDoorAgK4
namespace Go.Proofs.YtpjdafhmneiohaaDoor
set_option linter.unusedSimpArgs false
set_option linter.unusedVariables false
open Go
set_option maxRecDepth 100000

theorem diptychlaw13_LensApart_ok (a_1 : lens_Lens) (b_2 : lens_Lens) (R : Bool) (hh : diptychlaw13_LensApart a_1 b_2 = some R) : PC Tryd.prog 10 [.agg [.int .u8 a_1.Prim.Op, .str a_1.Prim.Kind, .str a_1.Prim.Name, .str a_1.Prim.New, .list 1 (a_1.Prim.Values.map PV.str), .list 1 (a_1.Prim.To.map PV.str), .bool a_1.Turned, .list 8 (a_1.Kids.map lens_Lens.pv)], .agg [.int .u8 b_2.Prim.Op, .str b_2.Prim.Kind, .str b_2.Prim.Name, .str b_2.Prim.New, .list 1 (b_2.Prim.Values.map PV.str), .list 1 (b_2.Prim.To.map PV.str), .bool b_2.Turned, .list 8 (b_2.Kids.map lens_Lens.pv)]] (.bool R) := by
  rw [diptychlaw13_LensApart] at hh
  refine start_diptychlaw13_LensApart rfl ?_
  refine awp_first fun K kk hK => ?_
  simp only [go_sem]
  refine hK _ _ fun nx => ?_; clear hK K; try clear kk
  obtain ⟨shown_3, h1, hh⟩ := bind_ex hh
  refine awp_first fun K kk hK => ?_
  simp only [go_sem]
  refine step_call2 (diptychlaw13_shown_ok _ h1) (by (try simp only [go_sem]) <;> exact wkl) (by rfl) (by rfl) ?_
  simp only [go_sem]
  refine hK _ _ fun nx => ?_; clear hK K; try clear kk
  refine awp_seq ?_
  by_cases h2 : (!shown_3) = true
  · rw [if_pos h2] at hh
    refine awp_first fun K kk hK => ?_
    simp only [go_sem, h2, h2]
    (repeat refine sd ?_)
    refine hK _ _ fun nx => ?_; clear hK K; try clear kk
    refine awp_true rfl ?_
    refine awp_first fun K kk hK => ?_
    simp only [go_sem]
    refine hK _ _ fun nx => ?_; clear hK K; try clear kk
    refine awp_ret ?_; refine nmx ?_
    obtain hR := Option.some.inj hh
    subst hR
    exact ret_p2
  · rw [if_neg h2] at hh
    replace h2 := Bool.eq_false_iff.mpr h2
    obtain ⟨light_4, h3, hh⟩ := bind_ex hh
    by_cases h4 : (decide (light_4 < (0 : Int))) = true
    · rw [if_pos h4] at hh
      refine awp_first fun K kk hK => ?_
      simp only [go_sem, h2, h2, h4, of_decide_eq_true h4, h4, of_decide_eq_true h4]
      (repeat refine sd ?_)
      refine step_call2 (diptychlaw13_light_ok _ _ _ h3) (by (try simp only [go_sem, h2, h2, h4, of_decide_eq_true h4, h4, of_decide_eq_true h4]) <;> exact wkl) (by rfl) (by rfl) ?_
      simp only [go_sem, h2, h2, h4, of_decide_eq_true h4, h4, of_decide_eq_true h4]
      (repeat refine sd ?_)
      refine hK _ _ fun nx => ?_; clear hK K; try clear kk
      refine awp_true rfl ?_
      refine awp_first fun K kk hK => ?_
      simp only [go_sem]
      refine hK _ _ fun nx => ?_; clear hK K; try clear kk
      refine awp_ret ?_; refine nmx ?_
      obtain hR := Option.some.inj hh
      subst hR
      exact ret_p2
    · rw [if_neg h4] at hh
      replace h4 := Bool.eq_false_iff.mpr h4
      obtain ⟨light_5, h5, hh⟩ := bind_ex hh
      by_cases h6 : (decide (light_5 < (0 : Int))) = true
      · rw [if_pos h6] at hh
        refine awp_first fun K kk hK => ?_
        simp only [go_sem, h2, h2, h4, of_decide_eq_false h4, h4, of_decide_eq_false h4, h6, of_decide_eq_true h6, h6, of_decide_eq_true h6]
        (repeat refine sd ?_)
        refine step_call2 (diptychlaw13_light_ok _ _ _ h3) (by (try simp only [go_sem, h2, h2, h4, of_decide_eq_false h4, h4, of_decide_eq_false h4, h6, of_decide_eq_true h6, h6, of_decide_eq_true h6]) <;> exact wkl) (by rfl) (by rfl) ?_
        simp only [go_sem, h2, h2, h4, of_decide_eq_false h4, h4, of_decide_eq_false h4, h6, of_decide_eq_true h6, h6, of_decide_eq_true h6]
        (repeat refine sd ?_)
        refine step_call2 (diptychlaw13_light_ok _ _ _ h5) (by (try simp only [go_sem, h2, h2, h4, of_decide_eq_false h4, h4, of_decide_eq_false h4, h6, of_decide_eq_true h6, h6, of_decide_eq_true h6]) <;> exact wkl) (by rfl) (by rfl) ?_
        simp only [go_sem, h2, h2, h4, of_decide_eq_false h4, h4, of_decide_eq_false h4, h6, of_decide_eq_true h6, h6, of_decide_eq_true h6]
        (repeat refine sd ?_)
        refine hK _ _ fun nx => ?_; clear hK K; try clear kk
        refine awp_true rfl ?_
        refine awp_first fun K kk hK => ?_
        simp only [go_sem]
        refine hK _ _ fun nx => ?_; clear hK K; try clear kk
        refine awp_ret ?_; refine nmx ?_
        obtain hR := Option.some.inj hh
        subst hR
        exact ret_p2
      · rw [if_neg h6] at hh
        replace h6 := Bool.eq_false_iff.mpr h6
        obtain ⟨right_6, h7, hh⟩ := bind_ex hh
        by_cases h8 : (!right_6) = true
        · rw [if_pos h8] at hh
          refine awp_first fun K kk hK => ?_
          simp only [go_sem, h2, h2, h4, of_decide_eq_false h4, h4, of_decide_eq_false h4, h6, of_decide_eq_false h6, h6, of_decide_eq_false h6, h8, h8]
          (repeat refine sd ?_)
          refine step_call2 (diptychlaw13_light_ok _ _ _ h3) (by (try simp only [go_sem, h2, h2, h4, of_decide_eq_false h4, h4, of_decide_eq_false h4, h6, of_decide_eq_false h6, h6, of_decide_eq_false h6, h8, h8]) <;> exact wkl) (by rfl) (by rfl) ?_
          simp only [go_sem, h2, h2, h4, of_decide_eq_false h4, h4, of_decide_eq_false h4, h6, of_decide_eq_false h6, h6, of_decide_eq_false h6, h8, h8]
          (repeat refine sd ?_)
          refine step_call2 (diptychlaw13_light_ok _ _ _ h5) (by (try simp only [go_sem, h2, h2, h4, of_decide_eq_false h4, h4, of_decide_eq_false h4, h6, of_decide_eq_false h6, h6, of_decide_eq_false h6, h8, h8]) <;> exact wkl) (by rfl) (by rfl) ?_
          simp only [go_sem, h2, h2, h4, of_decide_eq_false h4, h4, of_decide_eq_false h4, h6, of_decide_eq_false h6, h6, of_decide_eq_false h6, h8, h8]
          (repeat refine sd ?_)
          refine step_call2 (lens_Right_ok _ _ h7) (by (try simp only [go_sem, h2, h2, h4, of_decide_eq_false h4, h4, of_decide_eq_false h4, h6, of_decide_eq_false h6, h6, of_decide_eq_false h6, h8, h8]) <;> exact wkl) (by rfl) (by rfl) ?_
          simp only [go_sem, h2, h2, h4, of_decide_eq_false h4, h4, of_decide_eq_false h4, h6, of_decide_eq_false h6, h6, of_decide_eq_false h6, h8, h8]
          (repeat refine sd ?_)
          refine hK _ _ fun nx => ?_; clear hK K; try clear kk
          refine awp_true rfl ?_
          refine awp_first fun K kk hK => ?_
          simp only [go_sem]
          refine hK _ _ fun nx => ?_; clear hK K; try clear kk
          refine awp_ret ?_; refine nmx ?_
          obtain hR := Option.some.inj hh
          subst hR
          exact ret_p2
        · rw [if_neg h8] at hh
          replace h8 := Bool.eq_false_iff.mpr h8
          obtain ⟨right_7, h9, hh⟩ := bind_ex hh
          refine awp_first fun K kk hK => ?_
          simp only [go_sem, h2, h2, h4, of_decide_eq_false h4, h4, of_decide_eq_false h4, h6, of_decide_eq_false h6, h6, of_decide_eq_false h6, h8, h8]
          (repeat refine sd ?_)
          refine step_call2 (diptychlaw13_light_ok _ _ _ h3) (by (try simp only [go_sem, h2, h2, h4, of_decide_eq_false h4, h4, of_decide_eq_false h4, h6, of_decide_eq_false h6, h6, of_decide_eq_false h6, h8, h8]) <;> exact wkl) (by rfl) (by rfl) ?_
          simp only [go_sem, h2, h2, h4, of_decide_eq_false h4, h4, of_decide_eq_false h4, h6, of_decide_eq_false h6, h6, of_decide_eq_false h6, h8, h8]
          (repeat refine sd ?_)
          refine step_call2 (diptychlaw13_light_ok _ _ _ h5) (by (try simp only [go_sem, h2, h2, h4, of_decide_eq_false h4, h4, of_decide_eq_false h4, h6, of_decide_eq_false h6, h6, of_decide_eq_false h6, h8, h8]) <;> exact wkl) (by rfl) (by rfl) ?_
          simp only [go_sem, h2, h2, h4, of_decide_eq_false h4, h4, of_decide_eq_false h4, h6, of_decide_eq_false h6, h6, of_decide_eq_false h6, h8, h8]
          (repeat refine sd ?_)
          refine step_call2 (lens_Right_ok _ _ h7) (by (try simp only [go_sem, h2, h2, h4, of_decide_eq_false h4, h4, of_decide_eq_false h4, h6, of_decide_eq_false h6, h6, of_decide_eq_false h6, h8, h8]) <;> exact wkl) (by rfl) (by rfl) ?_
          simp only [go_sem, h2, h2, h4, of_decide_eq_false h4, h4, of_decide_eq_false h4, h6, of_decide_eq_false h6, h6, of_decide_eq_false h6, h8, h8]
          (repeat refine sd ?_)
          refine step_call2 (lens_Right_ok _ _ h9) (by (try simp only [go_sem, h2, h2, h4, of_decide_eq_false h4, h4, of_decide_eq_false h4, h6, of_decide_eq_false h6, h6, of_decide_eq_false h6, h8, h8]) <;> exact wkl) (by rfl) (by rfl) ?_
          simp only [go_sem, h2, h2, h4, of_decide_eq_false h4, h4, of_decide_eq_false h4, h6, of_decide_eq_false h6, h6, of_decide_eq_false h6, h8, h8]
          (repeat refine sd ?_)
          refine hK _ _ fun nx => ?_; clear hK K; try clear kk
          by_cases h10 : (!right_7) = true
          · rw [if_pos h10] at hh
            refine awp_true (by first | exact congrArg PV.bool h10 | rfl) ?_
            refine awp_first fun K kk hK => ?_
            simp only [go_sem]
            refine hK _ _ fun nx => ?_; clear hK K; try clear kk
            refine awp_ret ?_; refine nmx ?_
            obtain hR := Option.some.inj hh
            subst hR
            exact ret_p2
          · rw [if_neg h10] at hh
            replace h10 := Bool.eq_false_iff.mpr h10
            refine awp_false (by first | exact congrArg PV.bool h10 | rfl) ?_
            refine awp_skip ?_; refine nmx ?_
            obtain ⟨⟨r_8, r_9⟩, h11, hh⟩ := bind_ex hh
            dsimp only at hh
            refine awp_first fun K kk hK => ?_
            simp only [go_sem]
            refine step_call2 (lens_Print_ok _ _ h11) (by (try simp only [go_sem]) <;> exact wkl) (by rfl) (by rfl) ?_
            simp only [go_sem]
            refine hK _ _ fun nx => ?_; clear hK K; try clear kk
            obtain ⟨⟨r_10, r_11⟩, h12, hh⟩ := bind_ex hh
            dsimp only at hh
            refine awp_first fun K kk hK => ?_
            simp only [go_sem]
            refine step_call2 (lens_Print_ok _ _ h12) (by (try simp only [go_sem]) <;> exact wkl) (by rfl) (by rfl) ?_
            simp only [go_sem]
            refine hK _ _ fun nx => ?_; clear hK K; try clear kk
            obtain ⟨invert_12, h13, hh⟩ := bind_ex hh
            obtain ⟨⟨r_13, r_14⟩, h14, hh⟩ := bind_ex hh
            dsimp only at hh
            refine awp_first fun K kk hK => ?_
            simp only [go_sem]
            refine step_call2 (lens_Invert_ok _ _ h13) (by (try simp only [go_sem]) <;> exact wkl) (by rfl) (by rfl) ?_
            simp only [go_sem]
            refine step_call2 (lens_Print_ok _ _ h14) (by (try simp only [go_sem]) <;> exact wkl) (by rfl) (by rfl) ?_
            simp only [go_sem]
            refine hK _ _ fun nx => ?_; clear hK K; try clear kk
            refine awp_seq ?_
            by_cases h15 : (r_9 != (0 : Int)) = true
            · rw [if_pos h15] at hh
              refine awp_first fun K kk hK => ?_
              simp only [go_sem, h15, h15]
              (repeat refine sd ?_)
              refine hK _ _ fun nx => ?_; clear hK K; try clear kk
              refine awp_true rfl ?_
              refine awp_first fun K kk hK => ?_
              simp only [go_sem]
              refine hK _ _ fun nx => ?_; clear hK K; try clear kk
              refine awp_ret ?_; refine nmx ?_
              obtain hR := Option.some.inj hh
              subst hR
              exact ret_p2
            · rw [if_neg h15] at hh
              replace h15 := Bool.eq_false_iff.mpr h15
              by_cases h16 : (r_11 != (0 : Int)) = true
              · rw [if_pos h16] at hh
                refine awp_first fun K kk hK => ?_
                simp only [go_sem, h15, h15, h16, h16]
                (repeat refine sd ?_)
                refine hK _ _ fun nx => ?_; clear hK K; try clear kk
                refine awp_true rfl ?_
                refine awp_first fun K kk hK => ?_
                simp only [go_sem]
                refine hK _ _ fun nx => ?_; clear hK K; try clear kk
                refine awp_ret ?_; refine nmx ?_
                obtain hR := Option.some.inj hh
                subst hR
                exact ret_p2
              · rw [if_neg h16] at hh
                replace h16 := Bool.eq_false_iff.mpr h16
                obtain ⟨aslens_15, h17, hh⟩ := bind_ex hh
                obtain ⟨samele_16, h18, hh⟩ := bind_ex hh
                refine awp_first fun K kk hK => ?_
                simp only [go_sem, h15, h15, h16, h16]
                (repeat refine sd ?_)
                refine step_call2 (diptychlaw13_asLens_ok _ _ h17) (by (try simp only [go_sem, h15, h15, h16, h16]) <;> exact wkl) (by rfl) (by rfl) ?_
                simp only [go_sem, h15, h15, h16, h16]
                (repeat refine sd ?_)
                refine step_call2 (diptychlaw13_sameLens_ok _ _ _ h18) (by (try simp only [go_sem, h15, h15, h16, h16]) <;> exact wkl) (by rfl) (by rfl) ?_
                simp only [go_sem, h15, h15, h16, h16]
                (repeat refine sd ?_)
                refine hK _ _ fun nx => ?_; clear hK K; try clear kk
                by_cases h19 : ((((r_8 == r_10) == samele_16) != true)) = true
                · rw [if_pos h19] at hh
                  refine awp_true (by first | exact congrArg PV.bool h19 | rfl) ?_
                  refine awp_first fun K kk hK => ?_
                  simp only [go_sem]
                  refine hK _ _ fun nx => ?_; clear hK K; try clear kk
                  refine awp_ret ?_; refine nmx ?_
                  obtain hR := Option.some.inj hh
                  subst hR
                  exact ret_p2
                · rw [if_neg h19] at hh
                  replace h19 := Bool.eq_false_iff.mpr h19
                  refine awp_false (by first | exact congrArg PV.bool h19 | rfl) ?_
                  refine awp_skip ?_; refine nmx ?_
                  by_cases h20 : (r_14 == (2 : Int)) = true
                  · rw [if_pos h20] at hh
                    by_cases h21 : (r_13 == ([] : Str)) = true
                    · rw [if_pos h21] at hh
                      obtain ⟨invert_17, h22, hh⟩ := bind_ex hh
                      obtain ⟨right_18, h23, hh⟩ := bind_ex hh
                      by_cases h24 : (!right_18) = true
                      · rw [if_pos h24] at hh
                        refine awp_first fun K kk hK => ?_
                        simp only [go_sem, h20, h20, h21, h21, h24, h24]
                        (repeat refine sd ?_)
                        refine step_call2 (lens_Invert_ok _ _ h22) (by (try simp only [go_sem, h20, h20, h21, h21, h24, h24]) <;> exact wkl) (by rfl) (by rfl) ?_
                        simp only [go_sem, h20, h20, h21, h21, h24, h24]
                        (repeat refine sd ?_)
                        refine step_call2 (lens_Right_ok _ _ h23) (by (try simp only [go_sem, h20, h20, h21, h21, h24, h24]) <;> exact wkl) (by rfl) (by rfl) ?_
                        simp only [go_sem, h20, h20, h21, h21, h24, h24]
                        (repeat refine sd ?_)
                        refine hK _ _ fun nx => ?_; clear hK K; try clear kk
                        refine awp_ret ?_; refine nmx ?_
                        obtain hR := Option.some.inj hh
                        subst hR
                        exact ret_p2
                      · rw [if_neg h24] at hh
                        replace h24 := Bool.eq_false_iff.mpr h24
                        by_cases h25 : (r_14 == (0 : Int)) = true
                        · rw [if_pos h25] at hh
                          refine awp_first fun K kk hK => ?_
                          simp only [go_sem, h20, h20, h21, h21, h24, h25, h25, h24]
                          (repeat refine sd ?_)
                          refine step_call2 (lens_Invert_ok _ _ h22) (by (try simp only [go_sem, h20, h20, h21, h21, h24, h25, h25, h24]) <;> exact wkl) (by rfl) (by rfl) ?_
                          simp only [go_sem, h20, h20, h21, h21, h24, h25, h25, h24]
                          (repeat refine sd ?_)
                          refine step_call2 (lens_Right_ok _ _ h23) (by (try simp only [go_sem, h20, h20, h21, h21, h24, h25, h25, h24]) <;> exact wkl) (by rfl) (by rfl) ?_
                          simp only [go_sem, h20, h20, h21, h21, h24, h25, h25, h24]
                          (repeat refine sd ?_)
                          refine hK _ _ fun nx => ?_; clear hK K; try clear kk
                          refine awp_ret ?_; refine nmx ?_
                          obtain hR := Option.some.inj hh
                          subst hR
                          exact ret_p2
                        · rw [if_neg h25] at hh
                          replace h25 := Bool.eq_false_iff.mpr h25
                          refine awp_first fun K kk hK => ?_
                          simp only [go_sem, h20, h20, h21, h21, h24, h25, h25, h24]
                          (repeat refine sd ?_)
                          refine step_call2 (lens_Invert_ok _ _ h22) (by (try simp only [go_sem, h20, h20, h21, h21, h24, h25, h25, h24]) <;> exact wkl) (by rfl) (by rfl) ?_
                          simp only [go_sem, h20, h20, h21, h21, h24, h25, h25, h24]
                          (repeat refine sd ?_)
                          refine step_call2 (lens_Right_ok _ _ h23) (by (try simp only [go_sem, h20, h20, h21, h21, h24, h25, h25, h24]) <;> exact wkl) (by rfl) (by rfl) ?_
                          simp only [go_sem, h20, h20, h21, h21, h24, h25, h25, h24]
                          (repeat refine sd ?_)
                          refine hK _ _ fun nx => ?_; clear hK K; try clear kk
                          refine awp_ret ?_; refine nmx ?_
                          obtain hR := Option.some.inj hh
                          subst hR
                          exact ret_p2
                    · rw [if_neg h21] at hh
                      replace h21 := Bool.eq_false_iff.mpr h21
                      by_cases h26 : (r_14 == (0 : Int)) = true
                      · rw [if_pos h26] at hh
                        refine awp_first fun K kk hK => ?_
                        simp only [go_sem, h20, h20, h21, h21, h26, h26]
                        (repeat refine sd ?_)
                        refine hK _ _ fun nx => ?_; clear hK K; try clear kk
                        refine awp_ret ?_; refine nmx ?_
                        obtain hR := Option.some.inj hh
                        subst hR
                        exact ret_p2
                      · rw [if_neg h26] at hh
                        replace h26 := Bool.eq_false_iff.mpr h26
                        refine awp_first fun K kk hK => ?_
                        simp only [go_sem, h20, h20, h21, h21, h26, h26]
                        (repeat refine sd ?_)
                        refine hK _ _ fun nx => ?_; clear hK K; try clear kk
                        refine awp_ret ?_; refine nmx ?_
                        obtain hR := Option.some.inj hh
                        subst hR
                        exact ret_p2
                  · rw [if_neg h20] at hh
                    replace h20 := Bool.eq_false_iff.mpr h20
                    by_cases h27 : (r_14 == (0 : Int)) = true
                    · rw [if_pos h27] at hh
                      refine awp_first fun K kk hK => ?_
                      simp only [go_sem, h20, h20, h27, h27]
                      (repeat refine sd ?_)
                      refine hK _ _ fun nx => ?_; clear hK K; try clear kk
                      refine awp_ret ?_; refine nmx ?_
                      obtain hR := Option.some.inj hh
                      subst hR
                      exact ret_p2
                    · rw [if_neg h27] at hh
                      replace h27 := Bool.eq_false_iff.mpr h27
                      refine awp_first fun K kk hK => ?_
                      simp only [go_sem, h20, h20, h27, h27]
                      (repeat refine sd ?_)
                      refine hK _ _ fun nx => ?_; clear hK K; try clear kk
                      refine awp_ret ?_; refine nmx ?_
                      obtain hR := Option.some.inj hh
                      subst hR
                      exact ret_p2

end Go.Proofs.YtpjdafhmneiohaaDoor
