/- What the functions answer, the program answers (8). -/
import Derived.Test.YtblielhogcnnkaaDoorAgC
import Derived.Test.YtblielhogcnnkaaDoorAgF
import Derived.Test.YtblielhogcnnkaaDoorAgK0
import Derived.Test.YtblielhogcnnkaaDoorAgK3
import Derived.Test.YtblielhogcnnkaaDoorAgK5
import Derived.Test.YtblielhogcnnkaaDoorAgK7
import Derived.Test.YtblielhogcnnkaaDoorAgL
namespace Go.Proofs.YtblielhogcnnkaaDoor
set_option linter.unusedSimpArgs false
set_option linter.unusedVariables false
open Go
set_option maxRecDepth 100000

theorem diptychlaw5_PieceSplits_ok (l_1 : (List diptychlaw5_Cell)) (from_2 : Int) (to_3 : Int) (R : Bool) (hh : diptychlaw5_PieceSplits l_1 from_2 to_3 = some R) : PC Tryd.prog 7 [.list 3 (l_1.map diptychlaw5_Cell.pv), .int .i64 from_2, .int .i64 to_3] (.bool R) := by
  rw [diptychlaw5_PieceSplits] at hh
  refine start_diptychlaw5_PieceSplits rfl ?_
  refine awp_first fun K kk hK => ?_
  simp only [go_sem]
  refine hK _ _ fun nx => ?_; clear hK K; try clear kk
  obtain ⟨shown_4, h1, hh⟩ := bind_ex hh
  refine awp_first fun K kk hK => ?_
  simp only [go_sem]
  refine step_call2 (diptychlaw5_shown_ok _ h1) (by (try simp only [go_sem]) <;> exact wkl) (by rfl) (by rfl) ?_
  simp only [go_sem]
  refine hK _ _ fun nx => ?_; clear hK K; try clear kk
  refine awp_seq ?_
  refine awp_first fun K kk hK => ?_
  simp only [go_sem]
  refine hK _ _ fun nx => ?_; clear hK K; try clear kk
  by_cases h2 : (!shown_4) = true
  · rw [if_pos h2] at hh
    refine awp_true (by first | exact congrArg PV.bool h2 | rfl) ?_
    refine awp_first fun K kk hK => ?_
    simp only [go_sem]
    refine hK _ _ fun nx => ?_; clear hK K; try clear kk
    refine awp_ret ?_; refine nmx ?_
    obtain hR := Option.some.inj hh
    subst hR
    exact ret_p2
  · rw [if_neg h2] at hh
    replace h2 := Bool.eq_false_iff.mpr h2
    refine awp_false (by first | exact congrArg PV.bool h2 | rfl) ?_
    refine awp_skip ?_; refine nmx ?_
    obtain ⟨made_5, h3, hh⟩ := bind_ex hh
    refine awp_first fun K kk hK => ?_
    simp only [go_sem]
    refine step_call2 (diptychlaw5_made_ok _ _ h3) (by (try simp only [go_sem]) <;> exact wkl) (by rfl) (by rfl) ?_
    simp only [go_sem]
    refine hK _ _ fun nx => ?_; clear hK K; try clear kk
    obtain ⟨total_6, h4, hh⟩ := bind_ex hh
    refine awp_first fun K kk hK => ?_
    simp only [go_sem]
    refine step_call2 (node_Total_ok _ _ h4) (by (try simp only [go_sem]) <;> exact wkl) (by rfl) (by rfl) ?_
    simp only [go_sem]
    refine hK _ _ fun nx => ?_; clear hK K; try clear kk
    obtain ⟨pick_7, h5, hh⟩ := bind_ex hh
    obtain ⟨pick_8, h6, hh⟩ := bind_ex hh
    refine awp_first fun K kk hK => ?_
    simp only [go_sem]
    refine step_call2 (diptychlaw5_pick_ok _ _ _ h5) (by (try simp only [go_sem]) <;> exact wkl) (by rfl) (by rfl) ?_
    simp only [go_sem]
    refine step_call2 (diptychlaw5_pick_ok _ _ _ h6) (by (try simp only [go_sem]) <;> exact wkl) (by rfl) (by rfl) ?_
    simp only [go_sem]
    refine hK _ _ fun nx => ?_; clear hK K; try clear kk
    obtain ⟨pick_9, h7, hh⟩ := bind_ex hh
    obtain ⟨pick_10, h8, hh⟩ := bind_ex hh
    refine awp_first fun K kk hK => ?_
    simp only [go_sem]
    refine step_call2 (diptychlaw5_pick_ok _ _ _ h7) (by (try simp only [go_sem]) <;> exact wkl) (by rfl) (by rfl) ?_
    simp only [go_sem]
    refine step_call2 (diptychlaw5_pick_ok _ _ _ h8) (by (try simp only [go_sem]) <;> exact wkl) (by rfl) (by rfl) ?_
    simp only [go_sem]
    refine hK _ _ fun nx => ?_; clear hK K; try clear kk
    obtain ⟨⟨r_11, r_12, r_13⟩, h9, hh⟩ := bind_ex hh
    dsimp only at hh
    refine awp_first fun K kk hK => ?_
    simp only [go_sem]
    refine step_call2 (piece_Split_ok _ _ _ h9) (by (try simp only [go_sem]) <;> exact wkl) (by rfl) (by rfl) ?_
    simp only [go_sem]
    refine hK _ _ fun nx => ?_; clear hK K; try clear kk
    obtain ⟨⟨r_14, r_15, r_16⟩, h10, hh⟩ := bind_ex hh
    dsimp only at hh
    refine awp_first fun K kk hK => ?_
    simp only [go_sem]
    refine step_call2 (piece_Split_ok _ _ _ h10) (by (try simp only [go_sem]) <;> exact wkl) (by rfl) (by rfl) ?_
    simp only [go_sem]
    refine hK _ _ fun nx => ?_; clear hK K; try clear kk
    refine awp_seq ?_
    by_cases h11 : (r_13 != (0 : Int)) = true
    · rw [if_pos h11] at hh
      refine awp_first fun K kk hK => ?_
      simp only [go_sem, h11, h11]
      (repeat refine sd ?_)
      refine hK _ _ fun nx => ?_; clear hK K; try clear kk
      refine awp_true rfl ?_
      by_cases h12 : (r_13 == (0 : Int)) = true
      · rw [if_pos h12] at hh
        by_cases h13 : (r_16 == (0 : Int)) = true
        · rw [if_pos h13] at hh
          refine awp_first fun K kk hK => ?_
          simp only [go_sem, h12, h12, h13, h13]
          (repeat refine sd ?_)
          refine hK _ _ fun nx => ?_; clear hK K; try clear kk
          refine awp_ret ?_; refine nmx ?_
          obtain hR := Option.some.inj hh
          subst hR
          exact ret_p2
        · rw [if_neg h13] at hh
          replace h13 := Bool.eq_false_iff.mpr h13
          refine awp_first fun K kk hK => ?_
          simp only [go_sem, h12, h12, h13, h13]
          (repeat refine sd ?_)
          refine hK _ _ fun nx => ?_; clear hK K; try clear kk
          refine awp_ret ?_; refine nmx ?_
          obtain hR := Option.some.inj hh
          subst hR
          exact ret_p2
      · rw [if_neg h12] at hh
        replace h12 := Bool.eq_false_iff.mpr h12
        by_cases h14 : (r_13 == (10 : Int)) = true
        · rw [if_pos h14] at hh
          by_cases h15 : (r_16 == (0 : Int)) = true
          · rw [if_pos h15] at hh
            refine awp_first fun K kk hK => ?_
            simp only [go_sem, h12, h12, h14, h15, h15, h14]
            (repeat refine sd ?_)
            refine hK _ _ fun nx => ?_; clear hK K; try clear kk
            refine awp_ret ?_; refine nmx ?_
            obtain hR := Option.some.inj hh
            subst hR
            exact ret_p2
          · rw [if_neg h15] at hh
            replace h15 := Bool.eq_false_iff.mpr h15
            refine awp_first fun K kk hK => ?_
            simp only [go_sem, h12, h12, h14, h15, h15, h14]
            (repeat refine sd ?_)
            refine hK _ _ fun nx => ?_; clear hK K; try clear kk
            refine awp_ret ?_; refine nmx ?_
            obtain hR := Option.some.inj hh
            subst hR
            exact ret_p2
        · rw [if_neg h14] at hh
          replace h14 := Bool.eq_false_iff.mpr h14
          refine awp_first fun K kk hK => ?_
          simp only [go_sem, h12, h12, h14, h14]
          (repeat refine sd ?_)
          refine hK _ _ fun nx => ?_; clear hK K; try clear kk
          refine awp_ret ?_; refine nmx ?_
          obtain hR := Option.some.inj hh
          subst hR
          exact ret_p2
    · rw [if_neg h11] at hh
      replace h11 := Bool.eq_false_iff.mpr h11
      refine awp_first fun K kk hK => ?_
      simp only [go_sem, h11, h11]
      (repeat refine sd ?_)
      refine hK _ _ fun nx => ?_; clear hK K; try clear kk
      by_cases h16 : (r_16 != (0 : Int)) = true
      · rw [if_pos h16] at hh
        refine awp_true (by first | exact congrArg PV.bool h16 | rfl) ?_
        by_cases h17 : (r_13 == (0 : Int)) = true
        · rw [if_pos h17] at hh
          by_cases h18 : (r_16 == (0 : Int)) = true
          · rw [if_pos h18] at hh
            refine awp_first fun K kk hK => ?_
            simp only [go_sem, h17, h17, h18, h18]
            (repeat refine sd ?_)
            refine hK _ _ fun nx => ?_; clear hK K; try clear kk
            refine awp_ret ?_; refine nmx ?_
            obtain hR := Option.some.inj hh
            subst hR
            exact ret_p2
          · rw [if_neg h18] at hh
            replace h18 := Bool.eq_false_iff.mpr h18
            refine awp_first fun K kk hK => ?_
            simp only [go_sem, h17, h17, h18, h18]
            (repeat refine sd ?_)
            refine hK _ _ fun nx => ?_; clear hK K; try clear kk
            refine awp_ret ?_; refine nmx ?_
            obtain hR := Option.some.inj hh
            subst hR
            exact ret_p2
        · rw [if_neg h17] at hh
          replace h17 := Bool.eq_false_iff.mpr h17
          by_cases h19 : (r_13 == (10 : Int)) = true
          · rw [if_pos h19] at hh
            by_cases h20 : (r_16 == (0 : Int)) = true
            · rw [if_pos h20] at hh
              refine awp_first fun K kk hK => ?_
              simp only [go_sem, h17, h17, h19, h20, h20, h19]
              (repeat refine sd ?_)
              refine hK _ _ fun nx => ?_; clear hK K; try clear kk
              refine awp_ret ?_; refine nmx ?_
              obtain hR := Option.some.inj hh
              subst hR
              exact ret_p2
            · rw [if_neg h20] at hh
              replace h20 := Bool.eq_false_iff.mpr h20
              refine awp_first fun K kk hK => ?_
              simp only [go_sem, h17, h17, h19, h20, h20, h19]
              (repeat refine sd ?_)
              refine hK _ _ fun nx => ?_; clear hK K; try clear kk
              refine awp_ret ?_; refine nmx ?_
              obtain hR := Option.some.inj hh
              subst hR
              exact ret_p2
          · rw [if_neg h19] at hh
            replace h19 := Bool.eq_false_iff.mpr h19
            refine awp_first fun K kk hK => ?_
            simp only [go_sem, h17, h17, h19, h19]
            (repeat refine sd ?_)
            refine hK _ _ fun nx => ?_; clear hK K; try clear kk
            refine awp_ret ?_; refine nmx ?_
            obtain hR := Option.some.inj hh
            subst hR
            exact ret_p2
      · rw [if_neg h16] at hh
        replace h16 := Bool.eq_false_iff.mpr h16
        refine awp_false (by first | exact congrArg PV.bool h16 | rfl) ?_
        refine awp_skip ?_; refine nmx ?_
        obtain ⟨⟨r_17, r_18, r_19⟩, h21, hh⟩ := bind_ex hh
        dsimp only at hh
        refine awp_first fun K kk hK => ?_
        simp only [go_sem]
        refine step_call2 (piece_Split_ok _ _ _ h21) (by (try simp only [go_sem]) <;> exact wkl) (by rfl) (by rfl) ?_
        simp only [go_sem]
        refine hK _ _ fun nx => ?_; clear hK K; try clear kk
        obtain ⟨⟨r_20, r_21, r_22⟩, h22, hh⟩ := bind_ex hh
        dsimp only at hh
        refine awp_first fun K kk hK => ?_
        simp only [go_sem]
        refine step_call2 (piece_Split_ok _ _ _ h22) (by (try simp only [go_sem]) <;> exact wkl) (by rfl) (by rfl) ?_
        simp only [go_sem]
        refine hK _ _ fun nx => ?_; clear hK K; try clear kk
        by_cases h23 : (r_19 == (0 : Int)) = true
        · rw [if_pos h23] at hh
          by_cases h24 : (r_22 == (0 : Int)) = true
          · rw [if_pos h24] at hh
            obtain ⟨sameal_23, h25, hh⟩ := bind_ex hh
            by_cases h26 : (sameal_23) = true
            · rw [if_pos h26] at hh
              obtain ⟨sameal_24, h27, hh⟩ := bind_ex hh
              by_cases h28 : (sameal_24) = true
              · rw [if_pos h28] at hh
                obtain ⟨sameal_25, h29, hh⟩ := bind_ex hh
                refine awp_first fun K kk hK => ?_
                simp only [go_sem, h23, h23, h24, h24, h26, h26, h28, h28]
                (repeat refine sd ?_)
                refine step_call2 (diptychref1_SameAll_ok _ _ _ h25) (by (try simp only [go_sem, h23, h23, h24, h24, h26, h26, h28, h28]) <;> exact wkl) (by rfl) (by rfl) ?_
                simp only [go_sem, h23, h23, h24, h24, h26, h26, h28, h28]
                (repeat refine sd ?_)
                refine step_call2 (diptychref1_SameAll_ok _ _ _ h27) (by (try simp only [go_sem, h23, h23, h24, h24, h26, h26, h28, h28]) <;> exact wkl) (by rfl) (by rfl) ?_
                simp only [go_sem, h23, h23, h24, h24, h26, h26, h28, h28]
                (repeat refine sd ?_)
                refine step_call2 (diptychref1_SameAll_ok _ _ _ h29) (by (try simp only [go_sem, h23, h23, h24, h24, h26, h26, h28, h28]) <;> exact wkl) (by rfl) (by rfl) ?_
                simp only [go_sem, h23, h23, h24, h24, h26, h26, h28, h28]
                (repeat refine sd ?_)
                refine hK _ _ fun nx => ?_; clear hK K; try clear kk
                refine awp_ret ?_; refine nmx ?_
                obtain hR := Option.some.inj hh
                subst hR
                exact ret_p2
              · rw [if_neg h28] at hh
                replace h28 := Bool.eq_false_iff.mpr h28
                refine awp_first fun K kk hK => ?_
                simp only [go_sem, h23, h23, h24, h24, h26, h26, h28, h28]
                (repeat refine sd ?_)
                refine step_call2 (diptychref1_SameAll_ok _ _ _ h25) (by (try simp only [go_sem, h23, h23, h24, h24, h26, h26, h28, h28]) <;> exact wkl) (by rfl) (by rfl) ?_
                simp only [go_sem, h23, h23, h24, h24, h26, h26, h28, h28]
                (repeat refine sd ?_)
                refine step_call2 (diptychref1_SameAll_ok _ _ _ h27) (by (try simp only [go_sem, h23, h23, h24, h24, h26, h26, h28, h28]) <;> exact wkl) (by rfl) (by rfl) ?_
                simp only [go_sem, h23, h23, h24, h24, h26, h26, h28, h28]
                (repeat refine sd ?_)
                refine hK _ _ fun nx => ?_; clear hK K; try clear kk
                refine awp_ret ?_; refine nmx ?_
                obtain hR := Option.some.inj hh
                subst hR
                exact ret_p2
            · rw [if_neg h26] at hh
              replace h26 := Bool.eq_false_iff.mpr h26
              refine awp_first fun K kk hK => ?_
              simp only [go_sem, h23, h23, h24, h24, h26, h26]
              (repeat refine sd ?_)
              refine step_call2 (diptychref1_SameAll_ok _ _ _ h25) (by (try simp only [go_sem, h23, h23, h24, h24, h26, h26]) <;> exact wkl) (by rfl) (by rfl) ?_
              simp only [go_sem, h23, h23, h24, h24, h26, h26]
              (repeat refine sd ?_)
              refine hK _ _ fun nx => ?_; clear hK K; try clear kk
              refine awp_ret ?_; refine nmx ?_
              obtain hR := Option.some.inj hh
              subst hR
              exact ret_p2
          · rw [if_neg h24] at hh
            replace h24 := Bool.eq_false_iff.mpr h24
            refine awp_first fun K kk hK => ?_
            simp only [go_sem, h23, h23, h24, h24]
            (repeat refine sd ?_)
            refine hK _ _ fun nx => ?_; clear hK K; try clear kk
            refine awp_ret ?_; refine nmx ?_
            obtain hR := Option.some.inj hh
            subst hR
            exact ret_p2
        · rw [if_neg h23] at hh
          replace h23 := Bool.eq_false_iff.mpr h23
          refine awp_first fun K kk hK => ?_
          simp only [go_sem, h23, h23]
          (repeat refine sd ?_)
          refine hK _ _ fun nx => ?_; clear hK K; try clear kk
          refine awp_ret ?_; refine nmx ?_
          obtain hR := Option.some.inj hh
          subst hR
          exact ret_p2
theorem strings_Join_ok (l : (List Str)) (sep : Str) (R : Str) (hh : strings_Join l sep = some R) : PC Tryd.prog 100 [.list 1 (l.map PV.str), .str sep] (.str R) := by
  rw [strings_Join] at hh
  exact lib_join ⟨_, Tryd.func100, by kernel_rfl, by kernel_rfl⟩ Tryd.strings_Join_none Tryd.strings_Join l sep R hh
theorem strings_ReplaceAll_ok (s : Str) (old : Str) (new : Str) (R : Str) (hh : strings_ReplaceAll s old new = some R) : PC Tryd.prog 115 [.str s, .str old, .str new] (.str R) := by
  rw [strings_ReplaceAll] at hh
  exact lib_replaceAll ⟨_, Tryd.func115, by kernel_rfl, by kernel_rfl⟩ (fun _ h => h.2) Tryd.strings_ReplaceAll s old new R hh
theorem codec_Quote_ok (s_1 : Str) (R : Str) (hh : codec_Quote s_1 = some R) : PC Tryd.prog 101 [.str s_1] (.str R) := by
  rw [codec_Quote] at hh
  refine start_codec_Quote rfl ?_
  refine awp_first fun K kk hK => ?_
  simp only [go_sem]
  refine hK _ _ fun nx => ?_; clear hK K; try clear kk
  obtain ⟨replac_2, h1, hh⟩ := bind_ex hh
  refine awp_first fun K kk hK => ?_
  simp only [go_sem]
  refine step_call2 (strings_ReplaceAll_ok _ _ _ _ h1) (by (try simp only [go_sem]) <;> exact wkl) (by rfl) (by rfl) ?_
  simp only [go_sem]
  refine hK _ _ fun nx => ?_; clear hK K; try clear kk
  obtain ⟨replac_3, h2, hh⟩ := bind_ex hh
  obtain ⟨h3, hh⟩ := chk_some hh
  obtain ⟨h4, hh⟩ := chk_some hh
  refine awp_first fun K kk hK => ?_
  simp only [go_sem, h3, h4]
  (repeat refine sd ?_)
  refine step_call2 (strings_ReplaceAll_ok _ _ _ _ h2) (by (try simp only [go_sem, h3, h4]) <;> exact wkl) (by rfl) (by rfl) ?_
  simp only [go_sem, h3, h4]
  (repeat refine sd ?_)
  refine hK _ _ fun nx => ?_; clear hK K; try clear kk
  refine awp_ret ?_; refine nmx ?_
  obtain hR := Option.some.inj hh
  subst hR
  exact ret_p2
theorem codec_Head_ok (n_1 : api_Node) (R : Str) (hh : codec_Head n_1 = some R) : PC Tryd.prog 79 [.agg [.str n_1.Kind, .str n_1.Text, .list 1 (n_1.Marks.map PV.str), .list 2 (n_1.Attrs.map api_Attr.pv), .list 5 (n_1.Kids.map api_Node.pv)]] (.str R) := by
  rw [codec_Head] at hh
  refine start_codec_Head rfl ?_
  refine awp_first fun K kk hK => ?_
  simp only [go_sem]
  refine hK _ _ fun nx => ?_; clear hK K; try clear kk
  refine awp_seq ?_
  refine awp_first fun K kk hK => ?_
  simp only [go_sem]
  refine hK _ _ fun nx => ?_; clear hK K; try clear kk
  by_cases h1 : (n_1.Kind == ([116, 101, 120, 116] : Str)) = true
  · rw [if_pos h1] at hh
    refine awp_true (by first | exact congrArg PV.bool h1 | rfl) ?_
    refine awp_seq ?_
    refine awp_first fun K kk hK => ?_
    simp only [go_sem]
    refine hK _ _ fun nx => ?_; clear hK K; try clear kk
    by_cases h2 : ((n_1.Marks.length : Int) == (0 : Int)) = true
    · rw [if_pos h2] at hh
      refine awp_true (by first | exact congrArg PV.bool h2 | rfl) ?_
      refine awp_first fun K kk hK => ?_
      simp only [go_sem]
      refine hK _ _ fun nx => ?_; clear hK K; try clear kk
      refine awp_ret ?_; refine nmx ?_
      obtain hR := Option.some.inj hh
      subst hR
      exact ret_p2
    · rw [if_neg h2] at hh
      replace h2 := Bool.eq_false_iff.mpr h2
      refine awp_false (by first | exact congrArg PV.bool h2 | rfl) ?_
      refine awp_skip ?_; refine nmx ?_
      obtain ⟨join_2, h3, hh⟩ := bind_ex hh
      obtain ⟨h4, hh⟩ := chk_some hh
      obtain ⟨h5, hh⟩ := chk_some hh
      refine awp_first fun K kk hK => ?_
      simp only [go_sem, h4, h5]
      (repeat refine sd ?_)
      refine step_call2 (strings_Join_ok _ _ _ h3) (by (try simp only [go_sem, h4, h5]) <;> exact wkl) (by rfl) (by rfl) ?_
      simp only [go_sem, h4, h5]
      (repeat refine sd ?_)
      refine hK _ _ fun nx => ?_; clear hK K; try clear kk
      refine awp_ret ?_; refine nmx ?_
      obtain hR := Option.some.inj hh
      subst hR
      exact ret_p2
  · rw [if_neg h1] at hh
    replace h1 := Bool.eq_false_iff.mpr h1
    refine awp_false (by first | exact congrArg PV.bool h1 | rfl) ?_
    refine awp_skip ?_; refine nmx ?_
    refine awp_seq ?_
    refine awp_first fun K kk hK => ?_
    simp only [go_sem]
    refine hK _ _ fun nx => ?_; clear hK K; try clear kk
    by_cases h6 : ((n_1.Attrs.length : Int) == (0 : Int)) = true
    · rw [if_pos h6] at hh
      refine awp_true (by first | exact congrArg PV.bool h6 | rfl) ?_
      refine awp_first fun K kk hK => ?_
      simp only [go_sem]
      refine hK _ _ fun nx => ?_; clear hK K; try clear kk
      refine awp_ret ?_; refine nmx ?_
      obtain hR := Option.some.inj hh
      subst hR
      exact ret_p2
    · rw [if_neg h6] at hh
      replace h6 := Bool.eq_false_iff.mpr h6
      refine awp_false (by first | exact congrArg PV.bool h6 | rfl) ?_
      refine awp_skip ?_; refine nmx ?_
      refine awp_first fun K kk hK => ?_
      simp only [go_sem]
      refine hK _ _ fun nx => ?_; clear hK K; try clear kk
      refine awp_seq ?_
      refine awp_first fun K kk hK => ?_
      simp only [go_sem]
      refine hK _ _ fun nx => ?_; clear hK K; try clear kk
      obtain ⟨e0, f0, hh⟩ := bind_ex hh
      obtain ⟨hlen0, f0⟩ := chk_some f0
      refine awp_fragE (CutTo (fun s => ∃ l_16, l_16 = e0 ∧ ∃ (v_14 : Int) (v_15 : Bool) (nx : Nat) (g1 : Nat) (g3 : Nat), s = ⟨[(1, .box 1 g1 0), (3, .row 3 g3 l_16.length), (25, .list 2 (n_1.Attrs.map api_Attr.pv)), (26, .int .i64 (n_1.Attrs.length : Int)), (27, .int .i64 v_14), (28, .bool v_15)], [(1, g1, .var 28 [.str n_1.Kind, .str n_1.Text, .list 1 (n_1.Marks.map PV.str), .list 2 (n_1.Attrs.map api_Attr.pv), .list 5 (n_1.Kids.map api_Node.pv)]), (3, g3, .row false 1 (l_16.map PV.str))], nx⟩))
        (fun i s => False)
        (fun s => False) ?_ ?_ ?_ ?_
      · refine awp_block ?_
        refine awp_loopJ fun I hI => ?_
        have key : ∀ (suf pre : List api_Attr) (v_6 : Int) (l_7 : (List Str)), n_1.Attrs = pre ++ suf → v_6 = (pre.length : Int) → codec_Head_l0 suf v_6 l_7 = some e0 → ∀ (nx : Nat) (g1 : Nat) (g3 : Nat), I ⟨[(1, .box 1 g1 0), (3, .row 3 g3 l_7.length), (25, .list 2 (n_1.Attrs.map api_Attr.pv)), (26, .int .i64 (n_1.Attrs.length : Int)), (27, .int .i64 v_6)], [(1, g1, .var 28 [.str n_1.Kind, .str n_1.Text, .list 1 (n_1.Marks.map PV.str), .list 2 (n_1.Attrs.map api_Attr.pv), .list 5 (n_1.Kids.map api_Node.pv)]), (3, g3, .row false 1 (l_7.map PV.str))], nx⟩ := by
          intro suf
          induction suf with
          | nil =>
            intro pre v_6 l_7 hsplit hidx hh nx g1 g3
            rw [codec_Head_l0] at hh
            refine hI _ ?_
            have h19 := walk_nil hsplit hidx
            refine awp_first fun K kk hK => ?_
            simp only [go_sem]
            refine hK _ _ fun nx => ?_; clear hK K; try clear kk
            refine awp_seq ?_
            refine awp_false (by first | exact congrArg PV.bool h19 | rfl) ?_
            refine awp_exit ?_; refine nmx ?_
            refine fragN ?_
            refine cut_id ?_
            refine ⟨_, (Option.some.inj hh), ?_⟩
            first | exact ⟨_, _, _, _, _, rfl⟩ | (simp only [diptychlaw5_Cell.pv_eq, api_Attr.pv_eq, api_Node.pv_eq, place_Spot.pv_eq, piece_flat.pv_eq, diptychref4_Spot.pv_eq, token_Token.pv_eq, pvL, List.map_cons, List.map_nil, List.map_append, rune1]; exact ⟨_, _, _, _, _, rfl⟩) | (simp only [diptychlaw5_Cell.pv_eq, api_Attr.pv_eq, api_Node.pv_eq, place_Spot.pv_eq, piece_flat.pv_eq, diptychref4_Spot.pv_eq, token_Token.pv_eq, pvL, List.map_cons, List.map_nil, List.map_append, rune1, h1, h19, h6]; exact ⟨_, _, _, _, _, rfl⟩)
          | cons y_11 suf ih =>
            intro pre v_6 l_7 hsplit hidx hh nx g1 g3
            rw [codec_Head_l0] at hh
            refine hI _ ?_
            obtain ⟨hl0a, hl0b, hl0d, hl0w, h19⟩ := walk_cons (f := api_Attr.pv) hsplit hidx hlen0
            refine awp_first fun K kk hK => ?_
            simp only [go_sem]
            refine hK _ _ fun nx => ?_; clear hK K; try clear kk
            refine awp_seq ?_
            refine awp_true (by first | exact congrArg PV.bool h19 | rfl) ?_
            refine awp_skip ?_; refine nmx ?_
            refine awp_seq ?_
            refine awp_block ?_
            refine awp_first fun K kk hK => ?_
            simp only [go_sem, hl0a, hl0b, hl0d, hl0w]
            refine hK _ _ fun nx => ?_; clear hK K; try clear kk
            obtain ⟨h20, hh⟩ := chk_some hh
            obtain ⟨quote_12, h21, hh⟩ := bind_ex hh
            obtain ⟨h22, hh⟩ := chk_some hh
            obtain ⟨l_13, h23, hh⟩ := bind_ex hh
            obtain ⟨h23a, h23c⟩ := app_some h23
            have h23d := app_map (f := PV.str) h23c
            have h23e := app_len h23c
            try simp only [List.length_cons, List.length_nil, Nat.zero_add, Nat.reduceAdd] at h23a h23e
            try simp only [h23e] at h23a
            try simp only [List.map_cons, List.map_nil, List.nil_append, List.append_nil, List.cons_append, List.singleton_append, rune1, diptychlaw5_Cell.pv_eq, api_Attr.pv_eq, api_Node.pv_eq, place_Spot.pv_eq, piece_flat.pv_eq, diptychref4_Spot.pv_eq, token_Token.pv_eq, pvL] at h23d
            refine awp_region fun K kk hK => ?_
            simp only [go_sem, h20, h22, h23a, h23d, h23e, hl0a, hl0b, hl0d, hl0w]
            (repeat refine sd ?_)
            refine step_call2 (codec_Quote_ok _ _ h21) (by (try simp only [go_sem, h20, h22, h23a, h23d, h23e, hl0a, hl0b, hl0d, hl0w]) <;> exact wkl) (by rfl) (by rfl) ?_
            simp only [go_sem, h20, h22, h23a, h23d, h23e, hl0a, hl0b, hl0d, hl0w]
            (repeat refine sd ?_)
            refine hK _ _ fun nx => ?_; clear hK K; try clear kk
            refine nmx ?_
            refine awp_region fun K kk hK => ?_
            simp only [go_sem, hl0a, hl0b, hl0d, hl0w]
            refine hK _ _ fun nx => ?_; clear hK K; try clear kk
            refine nmx ?_
            have ih' := ih (pre ++ [y_11]) (v_6 + 1) _ (by rw [hsplit]; simp) (by simp [hidx]) hh nx
            refine cut_id ?_
            first | exact ih' _ _ | (simp only [diptychlaw5_Cell.pv_eq, api_Attr.pv_eq, api_Node.pv_eq, place_Spot.pv_eq, piece_flat.pv_eq, diptychref4_Spot.pv_eq, token_Token.pv_eq, pvL, List.map_cons, List.map_nil, List.map_append, rune1, h23e] at ih' ⊢; exact ih' _ _) | (simp only [diptychlaw5_Cell.pv_eq, api_Attr.pv_eq, api_Node.pv_eq, place_Spot.pv_eq, piece_flat.pv_eq, diptychref4_Spot.pv_eq, token_Token.pv_eq, pvL, List.map_cons, List.map_nil, List.map_append, rune1, h23e, h1, h19, h6] at ih' ⊢; exact ih' _ _)
        exact key n_1.Attrs [] _ _ rfl rfl f0 _ _ _
      · rintro s ⟨t, hless, l_16, rfl, v_14, v_15, nx, g1, g3, rfl⟩
        try dsimp only at hh
        refine nmy ?_
        first | (refine cut_less hless ?_; try refine cut_awp ?_) | refine frag_less hless ?_ | refine body_less hless ?_
        obtain ⟨h24, hh⟩ := chk_some hh
        obtain ⟨join_17, h25, hh⟩ := bind_ex hh
        obtain ⟨h26, hh⟩ := chk_some hh
        obtain ⟨h27, hh⟩ := chk_some hh
        refine first_fact (.nrm 3 [some 1]) ?_
        refine awp_first fun K kk hK => ?_
        simp only [go_sem, h24, h26, h27]
        (repeat refine sd ?_)
        refine step_call2 (strings_Join_ok _ _ _ h25) (by (try simp only [go_sem, h24, h26, h27]) <;> exact wkl) (by rfl) (by rfl) ?_
        simp only [go_sem, h24, h26, h27]
        (repeat refine sd ?_)
        refine hK _ _ fun nx => ?_; clear hK K; try clear kk
        refine awp_ret ?_; refine nmx ?_
        obtain hR := Option.some.inj hh
        subst hR
        exact ret_p2
      · intro i s h; exact h.elim
      · intro s h; exact h.elim
theorem token_Of_grp : ∀ kr : Nat, (∀ (l_1 : (List api_Node)) (R : (List token_Token)), token_Of_k kr l_1 = some R → PC Tryd.prog 43 [.list 5 (l_1.map api_Node.pv)] (.own 3 (R.map token_Token.pv))) := by
  intro kr
  induction kr with
  | zero => exact (by intro l_1 R hh; rw [token_Of_k] at hh; cases hh)
  | succ kr ih =>
    have ih_token_Of := ih
    clear ih
    intro l_1 R hh
    rw [token_Of_k] at hh
    refine start_token_Of rfl ?_
    refine awp_first fun K kk hK => ?_
    simp only [go_sem]
    refine hK _ _ fun nx => ?_; clear hK K; try clear kk
    refine awp_first fun K kk hK => ?_
    simp only [go_sem]
    refine hK _ _ fun nx => ?_; clear hK K; try clear kk
    refine awp_seq ?_
    refine awp_first fun K kk hK => ?_
    simp only [go_sem]
    refine hK _ _ fun nx => ?_; clear hK K; try clear kk
    obtain ⟨e0, f0, hh⟩ := bind_ex hh
    obtain ⟨hlen0, f0⟩ := chk_some f0
    refine awp_fragE (CutTo (fun s => ∃ out_48, out_48 = e0 ∧ ∃ (v_46 : Int) (v_47 : Bool) (nx : Nat) (g3 : Nat), s = ⟨[(3, .row 3 g3 out_48.length), (8, .list 5 (l_1.map api_Node.pv)), (9, .int .i64 (l_1.length : Int)), (10, .int .i64 v_46), (11, .bool v_47)], [(3, g3, .row false 3 (out_48.map token_Token.pv))], nx⟩))
      (fun i s => False)
      (fun s => False) ?_ ?_ ?_ ?_
    · refine awp_block ?_
      refine awp_loopJ fun I hI => ?_
      have key : ∀ (suf pre : List api_Node) (v_16 : Int) (out_17 : (List token_Token)), l_1 = pre ++ suf → v_16 = (pre.length : Int) → token_Of_l0 (token_Of_k kr) suf v_16 out_17 = some e0 → ∀ (nx : Nat) (g3 : Nat), I ⟨[(3, .row 3 g3 out_17.length), (8, .list 5 (l_1.map api_Node.pv)), (9, .int .i64 (l_1.length : Int)), (10, .int .i64 v_16)], [(3, g3, .row false 3 (out_17.map token_Token.pv))], nx⟩ := by
        intro suf
        induction suf with
        | nil =>
          intro pre v_16 out_17 hsplit hidx hh nx g3
          rw [token_Of_l0] at hh
          refine hI _ ?_
          have h29 := walk_nil hsplit hidx
          refine awp_first fun K kk hK => ?_
          simp only [go_sem]
          refine hK _ _ fun nx => ?_; clear hK K; try clear kk
          refine awp_seq ?_
          refine awp_false (by first | exact congrArg PV.bool h29 | rfl) ?_
          refine awp_exit ?_; refine nmx ?_
          refine fragN ?_
          refine cut_id ?_
          refine ⟨_, (Option.some.inj hh), ?_⟩
          first | exact ⟨_, _, _, _, rfl⟩ | (simp only [diptychlaw5_Cell.pv_eq, api_Attr.pv_eq, api_Node.pv_eq, place_Spot.pv_eq, piece_flat.pv_eq, diptychref4_Spot.pv_eq, token_Token.pv_eq, pvL, List.map_cons, List.map_nil, List.map_append, rune1]; exact ⟨_, _, _, _, rfl⟩) | (simp only [diptychlaw5_Cell.pv_eq, api_Attr.pv_eq, api_Node.pv_eq, place_Spot.pv_eq, piece_flat.pv_eq, diptychref4_Spot.pv_eq, token_Token.pv_eq, pvL, List.map_cons, List.map_nil, List.map_append, rune1, h29]; exact ⟨_, _, _, _, rfl⟩)
        | cons y_32 suf ih =>
          intro pre v_16 out_17 hsplit hidx hh nx g3
          rw [token_Of_l0] at hh
          refine hI _ ?_
          obtain ⟨hl0a, hl0b, hl0d, hl0w, h29⟩ := walk_cons (f := api_Node.pv) hsplit hidx hlen0
          refine awp_first fun K kk hK => ?_
          simp only [go_sem]
          refine hK _ _ fun nx => ?_; clear hK K; try clear kk
          refine awp_seq ?_
          refine awp_true (by first | exact congrArg PV.bool h29 | rfl) ?_
          refine awp_skip ?_; refine nmx ?_
          refine awp_seq ?_
          refine awp_block ?_
          refine awp_first fun K kk hK => ?_
          simp only [go_sem, hl0a, hl0b, hl0d, hl0w]
          refine hK _ _ fun nx => ?_; clear hK K; try clear kk
          refine awp_seq ?_
          refine awp_first fun K kk hK => ?_
          simp only [go_sem, hl0a, hl0b, hl0d, hl0w]
          refine hK _ _ fun nx => ?_; clear hK K; try clear kk
          by_cases h30 : (y_32.Kind == ([116, 101, 120, 116] : Str)) = true
          · rw [if_pos h30] at hh
            refine awp_true (by first | exact congrArg PV.bool h30 | rfl) ?_
            refine awp_seq ?_
            refine awp_first fun K kk hK => ?_
            simp only [go_sem, hl0a, hl0b, hl0d, hl0w]
            refine hK _ _ fun nx => ?_; clear hK K; try clear kk
            obtain ⟨e7, f7, hh⟩ := bind_ex hh
            refine awp_fragE (CutTo (fun s => ∃ out_39, out_39 = e7 ∧ ∃ (v_40 : Nat) (nx : Nat) (g3 : Nat) (g5 : Nat) (g19 : Nat), s = ⟨[(3, .row 3 g3 out_39.length), (5, .box 5 g5 0), (8, .list 5 (l_1.map api_Node.pv)), (9, .int .i64 (l_1.length : Int)), (10, .int .i64 v_16), (19, .box 19 g19 0), (20, .tup [.bool false]), (21, .bool false)], [(3, g3, .row false 3 (out_39.map token_Token.pv)), (5, g5, .var 28 [.str y_32.Kind, .str y_32.Text, .list 1 (y_32.Marks.map PV.str), .list 2 (y_32.Attrs.map api_Attr.pv), .list 5 (y_32.Kids.map api_Node.pv)]), (19, g19, .iter y_32.Text v_40)], nx⟩))
              (fun i s => False)
              (fun s => False) ?_ ?_ ?_ ?_
            · refine awp_block ?_
              refine awp_loopJ fun I hI => ?_
              obtain ⟨k, f7⟩ := lim_some f7
              have key : ∀ (k : Nat) (out_35 : (List token_Token)) (v_36 : Nat), token_Of_l7 y_32 k out_35 v_36 = some e7 → ∀ (nx : Nat) (g3 : Nat) (g5 : Nat) (g19 : Nat), I ⟨[(3, .row 3 g3 out_35.length), (5, .box 5 g5 0), (8, .list 5 (l_1.map api_Node.pv)), (9, .int .i64 (l_1.length : Int)), (10, .int .i64 v_16), (19, .box 19 g19 0)], [(3, g3, .row false 3 (out_35.map token_Token.pv)), (5, g5, .var 28 [.str y_32.Kind, .str y_32.Text, .list 1 (y_32.Marks.map PV.str), .list 2 (y_32.Attrs.map api_Attr.pv), .list 5 (y_32.Kids.map api_Node.pv)]), (19, g19, .iter y_32.Text v_36)], nx⟩ := by
                intro k
                induction k with
                | zero => intro out_35 v_36 hh; rw [token_Of_l7] at hh; cases hh
                | succ k ih =>
                  intro out_35 v_36 hh nx g3 g5 g19
                  rw [token_Of_l7] at hh
                  refine hI _ ?_
                  refine awp_assoc ?_
                  refine awp_seq ?_
                  obtain ⟨e9, f9, hh⟩ := bind_ex hh
                  refine awp_frag (fun s => .inr () = e9 ∧ ∃ (nx : Nat) (g3 : Nat) (g5 : Nat) (g19 : Nat), s = ⟨[(3, .row 3 g3 out_35.length), (5, .box 5 g5 0), (8, .list 5 (l_1.map api_Node.pv)), (9, .int .i64 (l_1.length : Int)), (10, .int .i64 v_16), (19, .box 19 g19 0), (20, .tup [.bool true, .int .i64 (v_36 : Int), .int .i32 (runeAt y_32.Text v_36)]), (21, .bool true)], [(3, g3, .row false 3 (out_35.map token_Token.pv)), (5, g5, .var 28 [.str y_32.Kind, .str y_32.Text, .list 1 (y_32.Marks.map PV.str), .list 2 (y_32.Attrs.map api_Attr.pv), .list 5 (y_32.Kids.map api_Node.pv)]), (19, g19, .iter y_32.Text (v_36 + runeW y_32.Text v_36))], nx⟩)
                    (fun i s => (i = 2 ∧ .inl () = e9 ∧ ∃ (nx : Nat) (g3 : Nat) (g5 : Nat) (g19 : Nat), s = ⟨[(3, .row 3 g3 out_35.length), (5, .box 5 g5 0), (8, .list 5 (l_1.map api_Node.pv)), (9, .int .i64 (l_1.length : Int)), (10, .int .i64 v_16), (19, .box 19 g19 0), (20, .tup [.bool false]), (21, .bool false)], [(3, g3, .row false 3 (out_35.map token_Token.pv)), (5, g5, .var 28 [.str y_32.Kind, .str y_32.Text, .list 1 (y_32.Marks.map PV.str), .list 2 (y_32.Attrs.map api_Attr.pv), .list 5 (y_32.Kids.map api_Node.pv)]), (19, g19, .iter y_32.Text v_36)], nx⟩))
                    (fun s => False) ?_ ?_ ?_ ?_
                  · have hh := f9
                    by_cases h34 : (decide (v_36 < y_32.Text.length)) = true
                    · rw [if_pos h34] at hh
                      refine awp_first fun K kk hK => ?_
                      simp only [go_sem, h34, of_decide_eq_true h34, hl0a, hl0b, hl0d, hl0w]
                      (repeat refine sd ?_)
                      refine hK _ _ fun nx => ?_; clear hK K; try clear kk
                      refine awp_true rfl ?_
                      refine awp_skip ?_; refine nmx ?_
                      refine fragN ?_
                      refine cut_id ?_
                      refine ⟨(Option.some.inj hh), ?_⟩
                      first | exact ⟨_, _, _, _, rfl⟩ | (simp only [diptychlaw5_Cell.pv_eq, api_Attr.pv_eq, api_Node.pv_eq, place_Spot.pv_eq, piece_flat.pv_eq, diptychref4_Spot.pv_eq, token_Token.pv_eq, pvL, List.map_cons, List.map_nil, List.map_append, rune1]; exact ⟨_, _, _, _, rfl⟩) | (simp only [diptychlaw5_Cell.pv_eq, api_Attr.pv_eq, api_Node.pv_eq, place_Spot.pv_eq, piece_flat.pv_eq, diptychref4_Spot.pv_eq, token_Token.pv_eq, pvL, List.map_cons, List.map_nil, List.map_append, rune1, h29, h30, h34]; exact ⟨_, _, _, _, rfl⟩)
                    · rw [if_neg h34] at hh
                      replace h34 := Bool.eq_false_iff.mpr h34
                      refine awp_first fun K kk hK => ?_
                      simp only [go_sem, h34, of_decide_eq_false h34, hl0a, hl0b, hl0d, hl0w]
                      (repeat refine sd ?_)
                      refine hK _ _ fun nx => ?_; clear hK K; try clear kk
                      refine awp_false rfl ?_
                      refine awp_exit ?_; refine nmx ?_
                      refine fragE ⟨rfl, (Option.some.inj hh), ?_⟩
                      first | exact ⟨_, _, _, _, rfl⟩ | (simp only [diptychlaw5_Cell.pv_eq, api_Attr.pv_eq, api_Node.pv_eq, place_Spot.pv_eq, piece_flat.pv_eq, diptychref4_Spot.pv_eq, token_Token.pv_eq, pvL, List.map_cons, List.map_nil, List.map_append, rune1]; exact ⟨_, _, _, _, rfl⟩) | (simp only [diptychlaw5_Cell.pv_eq, api_Attr.pv_eq, api_Node.pv_eq, place_Spot.pv_eq, piece_flat.pv_eq, diptychref4_Spot.pv_eq, token_Token.pv_eq, pvL, List.map_cons, List.map_nil, List.map_append, rune1, h29, h30, h34]; exact ⟨_, _, _, _, rfl⟩)
                  · rintro s ⟨rfl, nx, g3, g5, g19, rfl⟩
                    try dsimp only at hh
                    refine awp_block ?_
                    refine awp_first fun K kk hK => ?_
                    simp only [go_sem, hl0a, hl0b, hl0d, hl0w]
                    refine hK _ _ fun nx => ?_; clear hK K; try clear kk
                    obtain ⟨head_37, h35, hh⟩ := bind_ex hh
                    obtain ⟨l_38, h36, hh⟩ := bind_ex hh
                    obtain ⟨h36a, h36c⟩ := app_some h36
                    have h36d := app_map (f := token_Token.pv) h36c
                    have h36e := app_len h36c
                    try simp only [List.length_cons, List.length_nil, Nat.zero_add, Nat.reduceAdd] at h36a h36e
                    try simp only [h36e] at h36a
                    try simp only [List.map_cons, List.map_nil, List.nil_append, List.append_nil, List.cons_append, List.singleton_append, rune1, diptychlaw5_Cell.pv_eq, api_Attr.pv_eq, api_Node.pv_eq, place_Spot.pv_eq, piece_flat.pv_eq, diptychref4_Spot.pv_eq, token_Token.pv_eq, pvL] at h36d
                    refine awp_region fun K kk hK => ?_
                    simp only [go_sem, h36a, h36d, h36e, hl0a, hl0b, hl0d, hl0w]
                    (repeat refine sd ?_)
                    refine step_call2 (codec_Head_ok _ _ h35) (by (try simp only [go_sem, h36a, h36d, h36e, hl0a, hl0b, hl0d, hl0w]) <;> exact wkl) (by rfl) (by rfl) ?_
                    simp only [go_sem, h36a, h36d, h36e, hl0a, hl0b, hl0d, hl0w]
                    (repeat refine sd ?_)
                    refine hK _ _ fun nx => ?_; clear hK K; try clear kk
                    refine nmx ?_
                    have ih' := ih _ _ hh nx
                    refine cut_id ?_
                    first | exact ih' _ _ _ | (simp only [diptychlaw5_Cell.pv_eq, api_Attr.pv_eq, api_Node.pv_eq, place_Spot.pv_eq, piece_flat.pv_eq, diptychref4_Spot.pv_eq, token_Token.pv_eq, pvL, List.map_cons, List.map_nil, List.map_append, rune1, h36e] at ih' ⊢; exact ih' _ _ _) | (simp only [diptychlaw5_Cell.pv_eq, api_Attr.pv_eq, api_Node.pv_eq, place_Spot.pv_eq, piece_flat.pv_eq, diptychref4_Spot.pv_eq, token_Token.pv_eq, pvL, List.map_cons, List.map_nil, List.map_append, rune1, h36e, h29, h30] at ih' ⊢; exact ih' _ _ _)
                  · intro i s h
                    obtain ⟨rfl, rfl, nx, g3, g5, g19, rfl⟩ := h
                    try dsimp only at hh
                    refine nmx ?_
                    refine fragN ?_
                    refine cut_id ?_
                    refine ⟨_, (Option.some.inj hh), ?_⟩
                    first | exact ⟨_, _, _, _, _, rfl⟩ | (simp only [diptychlaw5_Cell.pv_eq, api_Attr.pv_eq, api_Node.pv_eq, place_Spot.pv_eq, piece_flat.pv_eq, diptychref4_Spot.pv_eq, token_Token.pv_eq, pvL, List.map_cons, List.map_nil, List.map_append, rune1]; exact ⟨_, _, _, _, _, rfl⟩) | (simp only [diptychlaw5_Cell.pv_eq, api_Attr.pv_eq, api_Node.pv_eq, place_Spot.pv_eq, piece_flat.pv_eq, diptychref4_Spot.pv_eq, token_Token.pv_eq, pvL, List.map_cons, List.map_nil, List.map_append, rune1, h29, h30]; exact ⟨_, _, _, _, _, rfl⟩)
                  · intro s h; exact h.elim
              exact key _ _ _ f7 _ _ _ _
            · rintro s ⟨t, hless, out_39, rfl, v_40, nx, g3, g5, g19, rfl⟩
              try dsimp only at hh
              refine nmy ?_
              first | (refine cut_less hless ?_; try refine cut_awp ?_) | refine frag_less hless ?_ | refine body_less hless ?_
              refine awp_exit ?_; refine nmx ?_
              refine awp_region fun K kk hK => ?_
              simp only [go_sem, hl0a, hl0b, hl0d, hl0w]
              refine hK _ _ fun nx => ?_; clear hK K; try clear kk
              refine nmx ?_
              have ih' := ih (pre ++ [y_32]) (v_16 + 1) _ (by rw [hsplit]; simp) (by simp [hidx]) hh nx
              refine cut_id ?_
              first | exact ih' _ | (simp only [diptychlaw5_Cell.pv_eq, api_Attr.pv_eq, api_Node.pv_eq, place_Spot.pv_eq, piece_flat.pv_eq, diptychref4_Spot.pv_eq, token_Token.pv_eq, pvL, List.map_cons, List.map_nil, List.map_append, rune1] at ih' ⊢; exact ih' _) | (simp only [diptychlaw5_Cell.pv_eq, api_Attr.pv_eq, api_Node.pv_eq, place_Spot.pv_eq, piece_flat.pv_eq, diptychref4_Spot.pv_eq, token_Token.pv_eq, pvL, List.map_cons, List.map_nil, List.map_append, rune1, h29, h30] at ih' ⊢; exact ih' _)
            · intro i s h; exact h.elim
            · intro s h; exact h.elim
          · rw [if_neg h30] at hh
            replace h30 := Bool.eq_false_iff.mpr h30
            refine awp_false (by first | exact congrArg PV.bool h30 | rfl) ?_
            refine awp_skip ?_; refine nmx ?_
            obtain ⟨head_41, h37, hh⟩ := bind_ex hh
            obtain ⟨l_42, h38, hh⟩ := bind_ex hh
            obtain ⟨h38a, h38c⟩ := app_some h38
            have h38d := app_map (f := token_Token.pv) h38c
            have h38e := app_len h38c
            try simp only [List.length_cons, List.length_nil, Nat.zero_add, Nat.reduceAdd] at h38a h38e
            try simp only [h38e] at h38a
            try simp only [List.map_cons, List.map_nil, List.nil_append, List.append_nil, List.cons_append, List.singleton_append, rune1, diptychlaw5_Cell.pv_eq, api_Attr.pv_eq, api_Node.pv_eq, place_Spot.pv_eq, piece_flat.pv_eq, diptychref4_Spot.pv_eq, token_Token.pv_eq, pvL] at h38d
            refine awp_first fun K kk hK => ?_
            simp only [go_sem, h38a, h38d, h38e, hl0a, hl0b, hl0d, hl0w]
            (repeat refine sd ?_)
            refine step_call2 (codec_Head_ok _ _ h37) (by (try simp only [go_sem, h38a, h38d, h38e, hl0a, hl0b, hl0d, hl0w]) <;> exact wkl) (by rfl) (by rfl) ?_
            simp only [go_sem, h38a, h38d, h38e, hl0a, hl0b, hl0d, hl0w]
            (repeat refine sd ?_)
            refine hK _ _ fun nx => ?_; clear hK K; try clear kk
            obtain ⟨of_43, h39, hh⟩ := bind_ex hh
            obtain ⟨l_44, h40, hh⟩ := bind_ex hh
            obtain ⟨h40a, h40c⟩ := app_some h40
            have h40d := app_map (f := token_Token.pv) h40c
            have h40e := app_len h40c
            try simp only [List.length_cons, List.length_nil, Nat.zero_add, Nat.reduceAdd] at h40a h40e
            try simp only [h40e] at h40a
            try simp only [List.map_cons, List.map_nil, List.nil_append, List.append_nil, List.cons_append, List.singleton_append, rune1, diptychlaw5_Cell.pv_eq, api_Attr.pv_eq, api_Node.pv_eq, place_Spot.pv_eq, piece_flat.pv_eq, diptychref4_Spot.pv_eq, token_Token.pv_eq, pvL] at h40d
            refine awp_first fun K kk hK => ?_
            simp only [go_sem, h40a, h40d, h40e, hl0a, hl0b, hl0d, hl0w]
            (repeat refine sd ?_)
            refine step_call2 (ih_token_Of _ _ h39).list (by (try simp only [go_sem, h40a, h40d, h40e, hl0a, hl0b, hl0d, hl0w]) <;> exact wkl) (by rfl) (by rfl) ?_
            simp only [go_sem, h40a, h40d, h40e, hl0a, hl0b, hl0d, hl0w]
            (repeat refine sd ?_)
            refine hK _ _ fun nx => ?_; clear hK K; try clear kk
            obtain ⟨l_45, h41, hh⟩ := bind_ex hh
            obtain ⟨h41a, h41c⟩ := app_some h41
            have h41d := app_map (f := token_Token.pv) h41c
            have h41e := app_len h41c
            try simp only [List.length_cons, List.length_nil, Nat.zero_add, Nat.reduceAdd] at h41a h41e
            try simp only [h41e] at h41a
            try simp only [List.map_cons, List.map_nil, List.nil_append, List.append_nil, List.cons_append, List.singleton_append, rune1, diptychlaw5_Cell.pv_eq, api_Attr.pv_eq, api_Node.pv_eq, place_Spot.pv_eq, piece_flat.pv_eq, diptychref4_Spot.pv_eq, token_Token.pv_eq, pvL] at h41d
            refine awp_region fun K kk hK => ?_
            simp only [go_sem, h41a, h41d, h41e, hl0a, hl0b, hl0d, hl0w]
            (repeat refine sd ?_)
            refine hK _ _ fun nx => ?_; clear hK K; try clear kk
            refine nmx ?_
            refine awp_region fun K kk hK => ?_
            simp only [go_sem, hl0a, hl0b, hl0d, hl0w]
            refine hK _ _ fun nx => ?_; clear hK K; try clear kk
            refine nmx ?_
            have ih' := ih (pre ++ [y_32]) (v_16 + 1) _ (by rw [hsplit]; simp) (by simp [hidx]) hh nx
            refine cut_id ?_
            first | exact ih' _ | (simp only [diptychlaw5_Cell.pv_eq, api_Attr.pv_eq, api_Node.pv_eq, place_Spot.pv_eq, piece_flat.pv_eq, diptychref4_Spot.pv_eq, token_Token.pv_eq, pvL, List.map_cons, List.map_nil, List.map_append, rune1, h38e, h40e, h41e] at ih' ⊢; exact ih' _) | (simp only [diptychlaw5_Cell.pv_eq, api_Attr.pv_eq, api_Node.pv_eq, place_Spot.pv_eq, piece_flat.pv_eq, diptychref4_Spot.pv_eq, token_Token.pv_eq, pvL, List.map_cons, List.map_nil, List.map_append, rune1, h38e, h40e, h41e, h29, h30] at ih' ⊢; exact ih' _)
      exact key l_1 [] _ _ rfl rfl f0 _ _
    · rintro s ⟨t, hless, out_48, rfl, v_46, v_47, nx, g3, rfl⟩
      try dsimp only at hh
      refine nmy ?_
      first | (refine cut_less hless ?_; try refine cut_awp ?_) | refine frag_less hless ?_ | refine body_less hless ?_
      refine awp_first fun K kk hK => ?_
      simp only [go_sem]
      refine hK _ _ fun nx => ?_; clear hK K; try clear kk
      refine awp_ret ?_; refine nmx ?_
      obtain hR := Option.some.inj hh
      subst hR
      exact ret_own (by rfl) (by rfl) (by rfl) (by simp only [List.length_map, List.length_cons, List.length_nil, Nat.zero_add, Nat.reduceAdd]) (by first | rfl | (simp only [diptychlaw5_Cell.pv_eq, api_Attr.pv_eq, api_Node.pv_eq, place_Spot.pv_eq, piece_flat.pv_eq, diptychref4_Spot.pv_eq, token_Token.pv_eq, pvL, List.map_cons, List.map_nil, List.map_append, rune1]; done) | (simp only [diptychlaw5_Cell.pv_eq, api_Attr.pv_eq, api_Node.pv_eq, place_Spot.pv_eq, piece_flat.pv_eq, diptychref4_Spot.pv_eq, token_Token.pv_eq, pvL, List.map_cons, List.map_nil, List.map_append, rune1]; rfl))
    · intro i s h; exact h.elim
    · intro s h; exact h.elim
theorem token_Of_ok (l_1 : (List api_Node)) (R : (List token_Token)) (hh : token_Of l_1 = some R) : PC Tryd.prog 43 [.list 5 (l_1.map api_Node.pv)] (.own 3 (R.map token_Token.pv)) := by
  rw [token_Of] at hh
  obtain ⟨kr, hh⟩ := lim_some hh
  exact (token_Of_grp kr) _ _ hh

end Go.Proofs.YtblielhogcnnkaaDoor
