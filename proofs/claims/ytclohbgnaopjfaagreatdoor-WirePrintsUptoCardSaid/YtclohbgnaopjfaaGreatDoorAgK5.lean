/- What the functions answer, the program answers (5). -/
import Derived.Test.YtclohbgnaopjfaaGreatDoorAgC
import Derived.Test.YtclohbgnaopjfaaGreatDoorAgF
import Derived.Test.YtclohbgnaopjfaaGreatDoorAgK3
import Derived.Test.YtclohbgnaopjfaaGreatDoorAgK4
namespace Go.Proofs.YtclohbgnaopjfaaGreatDoor
set_option linter.unusedSimpArgs false
set_option linter.unusedVariables false
open Go
set_option maxRecDepth 100000

theorem diptychref11_Right_ok (s_1 : diptychref11_Step) (R : Bool) (hh : diptychref11_Right s_1 = some R) : PC Tryz.prog 20 [.agg [.int .u8 s_1.Kind, .int .i64 s_1.From, .int .i64 s_1.To, .list 5 (s_1.Nodes.map api_Node.pv), .str s_1.Name, .str s_1.Value]] (.bool R) := by
  rw [diptychref11_Right] at hh
  refine start_diptychref11_Right rfl ?_
  refine awp_first fun K kk hK => ?_
  simp only [go_sem]
  refine hK _ _ fun nx => ?_; clear hK K; try clear kk
  refine awp_seq ?_
  obtain ⟨e0, f0, hh⟩ := bind_ex hh
  refine awp_frag (fun s => ∃ span_2, span_2 = e0 ∧ ∃ (nx : Nat) (g1 : Nat), s = ⟨[(1, .box 1 g1 0), (3, .bool span_2)], [(1, g1, .var 48 [.int .u8 s_1.Kind, .int .i64 s_1.From, .int .i64 s_1.To, .list 5 (s_1.Nodes.map api_Node.pv), .str s_1.Name, .str s_1.Value])], nx⟩)
    (fun i s => False)
    (fun s => False) ?_ ?_ ?_ ?_
  · have hh := f0
    by_cases h1 : (decide (s_1.From ≥ (0 : Int))) = true
    · rw [if_pos h1] at hh
      by_cases h2 : (decide (s_1.From ≤ s_1.To)) = true
      · rw [if_pos h2] at hh
        refine awp_region fun K kk hK => ?_
        simp only [go_sem, h1, of_decide_eq_true h1, h1, of_decide_eq_true h1, h2, of_decide_eq_true h2, h2, of_decide_eq_true h2]
        (repeat refine sd ?_)
        refine hK _ _ fun nx => ?_; clear hK K; try clear kk
        refine nmx ?_
        refine fragN ?_
        refine cut_id ?_
        refine ⟨_, (Option.some.inj hh), ?_⟩
        first | exact ⟨_, _, rfl⟩ | (simp only [api_Attr.pv_eq, api_Node.pv_eq, step_Step.pv_eq, diptychref11_Step.pv_eq, pvL, List.map_cons, List.map_nil, List.map_append, rune1]; exact ⟨_, _, rfl⟩) | (simp only [api_Attr.pv_eq, api_Node.pv_eq, step_Step.pv_eq, diptychref11_Step.pv_eq, pvL, List.map_cons, List.map_nil, List.map_append, rune1, h1, h2]; exact ⟨_, _, rfl⟩)
      · rw [if_neg h2] at hh
        replace h2 := Bool.eq_false_iff.mpr h2
        refine awp_region fun K kk hK => ?_
        simp only [go_sem, h1, of_decide_eq_true h1, h1, of_decide_eq_true h1, h2, of_decide_eq_false h2, h2, of_decide_eq_false h2]
        (repeat refine sd ?_)
        refine hK _ _ fun nx => ?_; clear hK K; try clear kk
        refine nmx ?_
        refine fragN ?_
        refine cut_id ?_
        refine ⟨_, (Option.some.inj hh), ?_⟩
        first | exact ⟨_, _, rfl⟩ | (simp only [api_Attr.pv_eq, api_Node.pv_eq, step_Step.pv_eq, diptychref11_Step.pv_eq, pvL, List.map_cons, List.map_nil, List.map_append, rune1]; exact ⟨_, _, rfl⟩) | (simp only [api_Attr.pv_eq, api_Node.pv_eq, step_Step.pv_eq, diptychref11_Step.pv_eq, pvL, List.map_cons, List.map_nil, List.map_append, rune1, h1, h2]; exact ⟨_, _, rfl⟩)
    · rw [if_neg h1] at hh
      replace h1 := Bool.eq_false_iff.mpr h1
      refine awp_region fun K kk hK => ?_
      simp only [go_sem, h1, of_decide_eq_false h1, h1, of_decide_eq_false h1]
      (repeat refine sd ?_)
      refine hK _ _ fun nx => ?_; clear hK K; try clear kk
      refine nmx ?_
      refine fragN ?_
      refine cut_id ?_
      refine ⟨_, (Option.some.inj hh), ?_⟩
      first | exact ⟨_, _, rfl⟩ | (simp only [api_Attr.pv_eq, api_Node.pv_eq, step_Step.pv_eq, diptychref11_Step.pv_eq, pvL, List.map_cons, List.map_nil, List.map_append, rune1]; exact ⟨_, _, rfl⟩) | (simp only [api_Attr.pv_eq, api_Node.pv_eq, step_Step.pv_eq, diptychref11_Step.pv_eq, pvL, List.map_cons, List.map_nil, List.map_append, rune1, h1]; exact ⟨_, _, rfl⟩)
  · rintro s ⟨span_2, rfl, nx, g1, rfl⟩
    try dsimp only at hh
    refine awp_seq ?_
    refine awp_first fun K kk hK => ?_
    simp only [go_sem]
    refine hK _ _ fun nx => ?_; clear hK K; try clear kk
    refine awp_block ?_
    refine awp_first fun K kk hK => ?_
    simp only [go_sem]
    refine hK _ _ fun nx => ?_; clear hK K; try clear kk
    by_cases h3 : (s_1.Kind == (114 : Int)) = true
    · rw [if_pos h3] at hh
      refine awp_true (by first | exact congrArg PV.bool h3 | rfl) ?_
      by_cases h4 : (span_2) = true
      · rw [if_pos h4] at hh
        obtain ⟨join_3, h5, hh⟩ := bind_ex hh
        obtain ⟨sameal_4, h6, hh⟩ := bind_ex hh
        by_cases h7 : (sameal_4) = true
        · rw [if_pos h7] at hh
          obtain ⟨formed_5, h8, hh⟩ := bind_ex hh
          by_cases h9 : (formed_5) = true
          · rw [if_pos h9] at hh
            by_cases h10 : (s_1.Name == ([] : Str)) = true
            · rw [if_pos h10] at hh
              refine awp_first fun K kk hK => ?_
              simp only [go_sem, h4, h4, h7, h7, h9, h9, h10, h10]
              (repeat refine sd ?_)
              refine step_call2 (diptychref1_Join_ok _ _ h5).list (by (try simp only [go_sem, h4, h4, h7, h7, h9, h9, h10, h10]) <;> exact wkl) (by rfl) (by rfl) ?_
              simp only [go_sem, h4, h4, h7, h7, h9, h9, h10, h10]
              (repeat refine sd ?_)
              refine step_call2 (diptychref1_SameAll_ok _ _ _ h6) (by (try simp only [go_sem, h4, h4, h7, h7, h9, h9, h10, h10]) <;> exact wkl) (by rfl) (by rfl) ?_
              simp only [go_sem, h4, h4, h7, h7, h9, h9, h10, h10]
              (repeat refine sd ?_)
              refine step_call2 (diptychref1_Formed_ok _ _ h8) (by (try simp only [go_sem, h4, h4, h7, h7, h9, h9, h10, h10]) <;> exact wkl) (by rfl) (by rfl) ?_
              simp only [go_sem, h4, h4, h7, h7, h9, h9, h10, h10]
              (repeat refine sd ?_)
              refine hK _ _ fun nx => ?_; clear hK K; try clear kk
              refine awp_ret ?_; refine nmx ?_
              obtain hR := Option.some.inj hh
              subst hR
              exact ret_p2
            · rw [if_neg h10] at hh
              replace h10 := Bool.eq_false_iff.mpr h10
              refine awp_first fun K kk hK => ?_
              simp only [go_sem, h4, h4, h7, h7, h9, h9, h10, h10]
              (repeat refine sd ?_)
              refine step_call2 (diptychref1_Join_ok _ _ h5).list (by (try simp only [go_sem, h4, h4, h7, h7, h9, h9, h10, h10]) <;> exact wkl) (by rfl) (by rfl) ?_
              simp only [go_sem, h4, h4, h7, h7, h9, h9, h10, h10]
              (repeat refine sd ?_)
              refine step_call2 (diptychref1_SameAll_ok _ _ _ h6) (by (try simp only [go_sem, h4, h4, h7, h7, h9, h9, h10, h10]) <;> exact wkl) (by rfl) (by rfl) ?_
              simp only [go_sem, h4, h4, h7, h7, h9, h9, h10, h10]
              (repeat refine sd ?_)
              refine step_call2 (diptychref1_Formed_ok _ _ h8) (by (try simp only [go_sem, h4, h4, h7, h7, h9, h9, h10, h10]) <;> exact wkl) (by rfl) (by rfl) ?_
              simp only [go_sem, h4, h4, h7, h7, h9, h9, h10, h10]
              (repeat refine sd ?_)
              refine hK _ _ fun nx => ?_; clear hK K; try clear kk
              refine awp_ret ?_; refine nmx ?_
              obtain hR := Option.some.inj hh
              subst hR
              exact ret_p2
          · rw [if_neg h9] at hh
            replace h9 := Bool.eq_false_iff.mpr h9
            refine awp_first fun K kk hK => ?_
            simp only [go_sem, h4, h4, h7, h7, h9, h9]
            (repeat refine sd ?_)
            refine step_call2 (diptychref1_Join_ok _ _ h5).list (by (try simp only [go_sem, h4, h4, h7, h7, h9, h9]) <;> exact wkl) (by rfl) (by rfl) ?_
            simp only [go_sem, h4, h4, h7, h7, h9, h9]
            (repeat refine sd ?_)
            refine step_call2 (diptychref1_SameAll_ok _ _ _ h6) (by (try simp only [go_sem, h4, h4, h7, h7, h9, h9]) <;> exact wkl) (by rfl) (by rfl) ?_
            simp only [go_sem, h4, h4, h7, h7, h9, h9]
            (repeat refine sd ?_)
            refine step_call2 (diptychref1_Formed_ok _ _ h8) (by (try simp only [go_sem, h4, h4, h7, h7, h9, h9]) <;> exact wkl) (by rfl) (by rfl) ?_
            simp only [go_sem, h4, h4, h7, h7, h9, h9]
            (repeat refine sd ?_)
            refine hK _ _ fun nx => ?_; clear hK K; try clear kk
            refine awp_ret ?_; refine nmx ?_
            obtain hR := Option.some.inj hh
            subst hR
            exact ret_p2
        · rw [if_neg h7] at hh
          replace h7 := Bool.eq_false_iff.mpr h7
          refine awp_first fun K kk hK => ?_
          simp only [go_sem, h4, h4, h7, h7]
          (repeat refine sd ?_)
          refine step_call2 (diptychref1_Join_ok _ _ h5).list (by (try simp only [go_sem, h4, h4, h7, h7]) <;> exact wkl) (by rfl) (by rfl) ?_
          simp only [go_sem, h4, h4, h7, h7]
          (repeat refine sd ?_)
          refine step_call2 (diptychref1_SameAll_ok _ _ _ h6) (by (try simp only [go_sem, h4, h4, h7, h7]) <;> exact wkl) (by rfl) (by rfl) ?_
          simp only [go_sem, h4, h4, h7, h7]
          (repeat refine sd ?_)
          refine hK _ _ fun nx => ?_; clear hK K; try clear kk
          refine awp_ret ?_; refine nmx ?_
          obtain hR := Option.some.inj hh
          subst hR
          exact ret_p2
      · rw [if_neg h4] at hh
        replace h4 := Bool.eq_false_iff.mpr h4
        refine awp_first fun K kk hK => ?_
        simp only [go_sem, h4, h4]
        (repeat refine sd ?_)
        refine hK _ _ fun nx => ?_; clear hK K; try clear kk
        refine awp_ret ?_; refine nmx ?_
        obtain hR := Option.some.inj hh
        subst hR
        exact ret_p2
    · rw [if_neg h3] at hh
      replace h3 := Bool.eq_false_iff.mpr h3
      refine awp_false (by first | exact congrArg PV.bool h3 | rfl) ?_
      refine awp_first fun K kk hK => ?_
      simp only [go_sem]
      refine hK _ _ fun nx => ?_; clear hK K; try clear kk
      by_cases h11 : (s_1.Kind == (97 : Int)) = true
      · rw [if_pos h11] at hh
        refine awp_true (by first | exact congrArg PV.bool h11 | rfl) ?_
        by_cases h12 : (decide (s_1.From ≥ (-1 : Int))) = true
        · rw [if_pos h12] at hh
          by_cases h13 : (decide (s_1.From ≤ (1048576 : Int))) = true
          · rw [if_pos h13] at hh
            by_cases h14 : (s_1.To == (0 : Int)) = true
            · rw [if_pos h14] at hh
              obtain ⟨name_6, h15, hh⟩ := bind_ex hh
              by_cases h16 : (name_6) = true
              · rw [if_pos h16] at hh
                obtain ⟨value_7, h17, hh⟩ := bind_ex hh
                by_cases h18 : (value_7) = true
                · rw [if_pos h18] at hh
                  refine awp_first fun K kk hK => ?_
                  simp only [go_sem, h12, of_decide_eq_true h12, h12, of_decide_eq_true h12, h13, of_decide_eq_true h13, h13, of_decide_eq_true h13, h14, h14, h16, h16, h18, h18]
                  (repeat refine sd ?_)
                  refine step_call2 (diptychref1_Name_ok _ _ h15) (by (try simp only [go_sem, h12, of_decide_eq_true h12, h12, of_decide_eq_true h12, h13, of_decide_eq_true h13, h13, of_decide_eq_true h13, h14, h14, h16, h16, h18, h18]) <;> exact wkl) (by rfl) (by rfl) ?_
                  simp only [go_sem, h12, of_decide_eq_true h12, h12, of_decide_eq_true h12, h13, of_decide_eq_true h13, h13, of_decide_eq_true h13, h14, h14, h16, h16, h18, h18]
                  (repeat refine sd ?_)
                  refine step_call2 (diptychref1_Value_ok _ _ h17) (by (try simp only [go_sem, h12, of_decide_eq_true h12, h12, of_decide_eq_true h12, h13, of_decide_eq_true h13, h13, of_decide_eq_true h13, h14, h14, h16, h16, h18, h18]) <;> exact wkl) (by rfl) (by rfl) ?_
                  simp only [go_sem, h12, of_decide_eq_true h12, h12, of_decide_eq_true h12, h13, of_decide_eq_true h13, h13, of_decide_eq_true h13, h14, h14, h16, h16, h18, h18]
                  (repeat refine sd ?_)
                  refine hK _ _ fun nx => ?_; clear hK K; try clear kk
                  refine awp_ret ?_; refine nmx ?_
                  obtain hR := Option.some.inj hh
                  subst hR
                  exact ret_p2
                · rw [if_neg h18] at hh
                  replace h18 := Bool.eq_false_iff.mpr h18
                  refine awp_first fun K kk hK => ?_
                  simp only [go_sem, h12, of_decide_eq_true h12, h12, of_decide_eq_true h12, h13, of_decide_eq_true h13, h13, of_decide_eq_true h13, h14, h14, h16, h16, h18, h18]
                  (repeat refine sd ?_)
                  refine step_call2 (diptychref1_Name_ok _ _ h15) (by (try simp only [go_sem, h12, of_decide_eq_true h12, h12, of_decide_eq_true h12, h13, of_decide_eq_true h13, h13, of_decide_eq_true h13, h14, h14, h16, h16, h18, h18]) <;> exact wkl) (by rfl) (by rfl) ?_
                  simp only [go_sem, h12, of_decide_eq_true h12, h12, of_decide_eq_true h12, h13, of_decide_eq_true h13, h13, of_decide_eq_true h13, h14, h14, h16, h16, h18, h18]
                  (repeat refine sd ?_)
                  refine step_call2 (diptychref1_Value_ok _ _ h17) (by (try simp only [go_sem, h12, of_decide_eq_true h12, h12, of_decide_eq_true h12, h13, of_decide_eq_true h13, h13, of_decide_eq_true h13, h14, h14, h16, h16, h18, h18]) <;> exact wkl) (by rfl) (by rfl) ?_
                  simp only [go_sem, h12, of_decide_eq_true h12, h12, of_decide_eq_true h12, h13, of_decide_eq_true h13, h13, of_decide_eq_true h13, h14, h14, h16, h16, h18, h18]
                  (repeat refine sd ?_)
                  refine hK _ _ fun nx => ?_; clear hK K; try clear kk
                  refine awp_ret ?_; refine nmx ?_
                  obtain hR := Option.some.inj hh
                  subst hR
                  exact ret_p2
              · rw [if_neg h16] at hh
                replace h16 := Bool.eq_false_iff.mpr h16
                refine awp_first fun K kk hK => ?_
                simp only [go_sem, h12, of_decide_eq_true h12, h12, of_decide_eq_true h12, h13, of_decide_eq_true h13, h13, of_decide_eq_true h13, h14, h14, h16, h16]
                (repeat refine sd ?_)
                refine step_call2 (diptychref1_Name_ok _ _ h15) (by (try simp only [go_sem, h12, of_decide_eq_true h12, h12, of_decide_eq_true h12, h13, of_decide_eq_true h13, h13, of_decide_eq_true h13, h14, h14, h16, h16]) <;> exact wkl) (by rfl) (by rfl) ?_
                simp only [go_sem, h12, of_decide_eq_true h12, h12, of_decide_eq_true h12, h13, of_decide_eq_true h13, h13, of_decide_eq_true h13, h14, h14, h16, h16]
                (repeat refine sd ?_)
                refine hK _ _ fun nx => ?_; clear hK K; try clear kk
                refine awp_ret ?_; refine nmx ?_
                obtain hR := Option.some.inj hh
                subst hR
                exact ret_p2
            · rw [if_neg h14] at hh
              replace h14 := Bool.eq_false_iff.mpr h14
              refine awp_first fun K kk hK => ?_
              simp only [go_sem, h12, of_decide_eq_true h12, h12, of_decide_eq_true h12, h13, of_decide_eq_true h13, h13, of_decide_eq_true h13, h14, h14]
              (repeat refine sd ?_)
              refine hK _ _ fun nx => ?_; clear hK K; try clear kk
              refine awp_ret ?_; refine nmx ?_
              obtain hR := Option.some.inj hh
              subst hR
              exact ret_p2
          · rw [if_neg h13] at hh
            replace h13 := Bool.eq_false_iff.mpr h13
            refine awp_first fun K kk hK => ?_
            simp only [go_sem, h12, of_decide_eq_true h12, h12, of_decide_eq_true h12, h13, of_decide_eq_false h13, h13, of_decide_eq_false h13]
            (repeat refine sd ?_)
            refine hK _ _ fun nx => ?_; clear hK K; try clear kk
            refine awp_ret ?_; refine nmx ?_
            obtain hR := Option.some.inj hh
            subst hR
            exact ret_p2
        · rw [if_neg h12] at hh
          replace h12 := Bool.eq_false_iff.mpr h12
          refine awp_first fun K kk hK => ?_
          simp only [go_sem, h12, of_decide_eq_false h12, h12, of_decide_eq_false h12]
          (repeat refine sd ?_)
          refine hK _ _ fun nx => ?_; clear hK K; try clear kk
          refine awp_ret ?_; refine nmx ?_
          obtain hR := Option.some.inj hh
          subst hR
          exact ret_p2
      · rw [if_neg h11] at hh
        replace h11 := Bool.eq_false_iff.mpr h11
        refine awp_false (by first | exact congrArg PV.bool h11 | rfl) ?_
        refine awp_seq ?_
        refine awp_first fun K kk hK => ?_
        simp only [go_sem]
        refine hK _ _ fun nx => ?_; clear hK K; try clear kk
        by_cases h19 : (s_1.Kind == (109 : Int)) = true
        · rw [if_pos h19] at hh
          refine awp_true (by first | exact congrArg PV.bool h19 | rfl) ?_
          refine awp_skip ?_; refine nmx ?_
          refine awp_true (by first | exact congrArg PV.bool h19 | rfl) ?_
          by_cases h20 : (span_2) = true
          · rw [if_pos h20] at hh
            obtain ⟨name_8, h21, hh⟩ := bind_ex hh
            by_cases h22 : (name_8) = true
            · rw [if_pos h22] at hh
              by_cases h23 : ((s_1.Nodes.length : Int) == (0 : Int)) = true
              · rw [if_pos h23] at hh
                refine awp_first fun K kk hK => ?_
                simp only [go_sem, h20, h20, h22, h22, h23, h23]
                (repeat refine sd ?_)
                refine step_call2 (diptychref1_Name_ok _ _ h21) (by (try simp only [go_sem, h20, h20, h22, h22, h23, h23]) <;> exact wkl) (by rfl) (by rfl) ?_
                simp only [go_sem, h20, h20, h22, h22, h23, h23]
                (repeat refine sd ?_)
                refine hK _ _ fun nx => ?_; clear hK K; try clear kk
                refine awp_ret ?_; refine nmx ?_
                obtain hR := Option.some.inj hh
                subst hR
                exact ret_p2
              · rw [if_neg h23] at hh
                replace h23 := Bool.eq_false_iff.mpr h23
                refine awp_first fun K kk hK => ?_
                simp only [go_sem, h20, h20, h22, h22, h23, h23]
                (repeat refine sd ?_)
                refine step_call2 (diptychref1_Name_ok _ _ h21) (by (try simp only [go_sem, h20, h20, h22, h22, h23, h23]) <;> exact wkl) (by rfl) (by rfl) ?_
                simp only [go_sem, h20, h20, h22, h22, h23, h23]
                (repeat refine sd ?_)
                refine hK _ _ fun nx => ?_; clear hK K; try clear kk
                refine awp_ret ?_; refine nmx ?_
                obtain hR := Option.some.inj hh
                subst hR
                exact ret_p2
            · rw [if_neg h22] at hh
              replace h22 := Bool.eq_false_iff.mpr h22
              refine awp_first fun K kk hK => ?_
              simp only [go_sem, h20, h20, h22, h22]
              (repeat refine sd ?_)
              refine step_call2 (diptychref1_Name_ok _ _ h21) (by (try simp only [go_sem, h20, h20, h22, h22]) <;> exact wkl) (by rfl) (by rfl) ?_
              simp only [go_sem, h20, h20, h22, h22]
              (repeat refine sd ?_)
              refine hK _ _ fun nx => ?_; clear hK K; try clear kk
              refine awp_ret ?_; refine nmx ?_
              obtain hR := Option.some.inj hh
              subst hR
              exact ret_p2
          · rw [if_neg h20] at hh
            replace h20 := Bool.eq_false_iff.mpr h20
            refine awp_first fun K kk hK => ?_
            simp only [go_sem, h20, h20]
            (repeat refine sd ?_)
            refine hK _ _ fun nx => ?_; clear hK K; try clear kk
            refine awp_ret ?_; refine nmx ?_
            obtain hR := Option.some.inj hh
            subst hR
            exact ret_p2
        · rw [if_neg h19] at hh
          replace h19 := Bool.eq_false_iff.mpr h19
          refine awp_false (by first | exact congrArg PV.bool h19 | rfl) ?_
          refine awp_region fun K kk hK => ?_
          simp only [go_sem]
          refine hK _ _ fun nx => ?_; clear hK K; try clear kk
          refine nmx ?_
          by_cases h24 : (s_1.Kind == (117 : Int)) = true
          · rw [if_pos h24] at hh
            refine awp_true (by first | exact congrArg PV.bool h24 | rfl) ?_
            by_cases h25 : (span_2) = true
            · rw [if_pos h25] at hh
              obtain ⟨name_9, h26, hh⟩ := bind_ex hh
              by_cases h27 : (name_9) = true
              · rw [if_pos h27] at hh
                by_cases h28 : ((s_1.Nodes.length : Int) == (0 : Int)) = true
                · rw [if_pos h28] at hh
                  refine awp_first fun K kk hK => ?_
                  simp only [go_sem, h25, h25, h27, h27, h28, h28]
                  (repeat refine sd ?_)
                  refine step_call2 (diptychref1_Name_ok _ _ h26) (by (try simp only [go_sem, h25, h25, h27, h27, h28, h28]) <;> exact wkl) (by rfl) (by rfl) ?_
                  simp only [go_sem, h25, h25, h27, h27, h28, h28]
                  (repeat refine sd ?_)
                  refine hK _ _ fun nx => ?_; clear hK K; try clear kk
                  refine awp_ret ?_; refine nmx ?_
                  obtain hR := Option.some.inj hh
                  subst hR
                  exact ret_p2
                · rw [if_neg h28] at hh
                  replace h28 := Bool.eq_false_iff.mpr h28
                  refine awp_first fun K kk hK => ?_
                  simp only [go_sem, h25, h25, h27, h27, h28, h28]
                  (repeat refine sd ?_)
                  refine step_call2 (diptychref1_Name_ok _ _ h26) (by (try simp only [go_sem, h25, h25, h27, h27, h28, h28]) <;> exact wkl) (by rfl) (by rfl) ?_
                  simp only [go_sem, h25, h25, h27, h27, h28, h28]
                  (repeat refine sd ?_)
                  refine hK _ _ fun nx => ?_; clear hK K; try clear kk
                  refine awp_ret ?_; refine nmx ?_
                  obtain hR := Option.some.inj hh
                  subst hR
                  exact ret_p2
              · rw [if_neg h27] at hh
                replace h27 := Bool.eq_false_iff.mpr h27
                refine awp_first fun K kk hK => ?_
                simp only [go_sem, h25, h25, h27, h27]
                (repeat refine sd ?_)
                refine step_call2 (diptychref1_Name_ok _ _ h26) (by (try simp only [go_sem, h25, h25, h27, h27]) <;> exact wkl) (by rfl) (by rfl) ?_
                simp only [go_sem, h25, h25, h27, h27]
                (repeat refine sd ?_)
                refine hK _ _ fun nx => ?_; clear hK K; try clear kk
                refine awp_ret ?_; refine nmx ?_
                obtain hR := Option.some.inj hh
                subst hR
                exact ret_p2
            · rw [if_neg h25] at hh
              replace h25 := Bool.eq_false_iff.mpr h25
              refine awp_first fun K kk hK => ?_
              simp only [go_sem, h25, h25]
              (repeat refine sd ?_)
              refine hK _ _ fun nx => ?_; clear hK K; try clear kk
              refine awp_ret ?_; refine nmx ?_
              obtain hR := Option.some.inj hh
              subst hR
              exact ret_p2
          · rw [if_neg h24] at hh
            replace h24 := Bool.eq_false_iff.mpr h24
            refine awp_false (by first | exact congrArg PV.bool h24 | rfl) ?_
            refine awp_skip ?_; refine nmx ?_
            refine awp_first fun K kk hK => ?_
            simp only [go_sem]
            refine hK _ _ fun nx => ?_; clear hK K; try clear kk
            refine awp_ret ?_; refine nmx ?_
            obtain hR := Option.some.inj hh
            subst hR
            exact ret_p2
  · intro i s h; exact h.elim
  · intro s h; exact h.elim
theorem diptychref2_Quote_ok (s_1 : Str) (R : Str) (hh : diptychref2_Quote s_1 = some R) : PC Tryz.prog 105 [.str s_1] (.str R) := by
  rw [diptychref2_Quote] at hh
  refine start_diptychref2_Quote rfl ?_
  refine awp_first fun K kk hK => ?_
  simp only [go_sem]
  refine hK _ _ fun nx => ?_; clear hK K; try clear kk
  refine awp_first fun K kk hK => ?_
  simp only [go_sem]
  refine hK _ _ fun nx => ?_; clear hK K; try clear kk
  refine awp_seq ?_
  refine awp_first fun K kk hK => ?_
  simp only [go_sem]
  refine hK _ _ fun nx => ?_; clear hK K; try clear kk
  obtain ⟨e0, f0, hh⟩ := bind_ex hh
  refine awp_fragE (CutTo (fun s => ∃ out_10, out_10 = e0 ∧ ∃ (i_11 : Int) (v_12 : Bool) (nx : Nat), s = ⟨[(0, .str s_1), (3, .str out_10), (4, .int .i64 i_11), (8, .bool v_12)], [], nx⟩))
    (fun i s => False)
    (fun s => False) ?_ ?_ ?_ ?_
  · refine awp_block ?_
    refine awp_loopJ fun I hI => ?_
    obtain ⟨k, f0⟩ := lim_some f0
    have key : ∀ (k : Nat) (out_5 : Str) (i_6 : Int), diptychref2_Quote_l0 s_1 k out_5 i_6 = some e0 → ∀ (nx : Nat), I ⟨[(0, .str s_1), (3, .str out_5), (4, .int .i64 i_6)], [], nx⟩ := by
      intro k
      induction k with
      | zero => intro out_5 i_6 hh; rw [diptychref2_Quote_l0] at hh; cases hh
      | succ k ih =>
        intro out_5 i_6 hh nx
        rw [diptychref2_Quote_l0] at hh
        refine hI _ ?_
        refine awp_seq ?_
        refine awp_first fun K kk hK => ?_
        simp only [go_sem]
        refine hK _ _ fun nx => ?_; clear hK K; try clear kk
        by_cases h14 : (decide (i_6 < (s_1.length : Int))) = true
        · rw [if_pos h14] at hh
          refine awp_true (by first | exact congrArg PV.bool h14 | rfl) ?_
          refine awp_skip ?_; refine nmx ?_
          refine awp_seq ?_
          refine awp_block ?_
          refine awp_seq ?_
          obtain ⟨h15, hh⟩ := chk_some hh
          by_cases h16 : (((s_1.getD i_6.toNat 0).toNat : Int) == (34 : Int)) = true
          · rw [if_pos h16] at hh
            refine awp_first fun K kk hK => ?_
            simp only [go_sem, h15.1, h15.2, h16, h16]
            (repeat refine sd ?_)
            refine hK _ _ fun nx => ?_; clear hK K; try clear kk
            refine awp_true rfl ?_
            obtain ⟨h17, hh⟩ := chk_some hh
            refine awp_region fun K kk hK => ?_
            simp only [go_sem, h17]
            (repeat refine sd ?_)
            refine hK _ _ fun nx => ?_; clear hK K; try clear kk
            refine nmx ?_
            obtain ⟨s_7, h18, hh⟩ := bind_ex hh
            obtain ⟨h18a, h18c⟩ := sl_some h18
            have h18g := sl_le h18a
            have h18d := id h18c
            try simp only [Int.toNat_natCast, Int.reduceToNat] at h18d
            obtain ⟨h19, hh⟩ := chk_some hh
            refine awp_region fun K kk hK => ?_
            simp only [go_sem, h18a.1, h18a.2.1, h18a.2.2, h18d, h18g, h19]
            (repeat refine sd ?_)
            refine hK _ _ fun nx => ?_; clear hK K; try clear kk
            refine nmx ?_
            refine awp_region fun K kk hK => ?_
            simp only [go_sem]
            refine hK _ _ fun nx => ?_; clear hK K; try clear kk
            refine nmx ?_
            have ih' := ih _ _ hh nx
            refine cut_id ?_
            first | exact ih' | (simp only [api_Attr.pv_eq, api_Node.pv_eq, step_Step.pv_eq, diptychref11_Step.pv_eq, pvL, List.map_cons, List.map_nil, List.map_append, rune1] at ih' ⊢; exact ih') | (simp only [api_Attr.pv_eq, api_Node.pv_eq, step_Step.pv_eq, diptychref11_Step.pv_eq, pvL, List.map_cons, List.map_nil, List.map_append, rune1, h14, h16] at ih' ⊢; exact ih')
          · rw [if_neg h16] at hh
            replace h16 := Bool.eq_false_iff.mpr h16
            obtain ⟨h20, hh⟩ := chk_some hh
            refine awp_first fun K kk hK => ?_
            simp only [go_sem, h15.1, h15.2, h16, h20.1, h20.2, h16]
            (repeat refine sd ?_)
            refine hK _ _ fun nx => ?_; clear hK K; try clear kk
            by_cases h21 : (((s_1.getD i_6.toNat 0).toNat : Int) == (92 : Int)) = true
            · rw [if_pos h21] at hh
              refine awp_true (by first | exact congrArg PV.bool h21 | rfl) ?_
              obtain ⟨h22, hh⟩ := chk_some hh
              refine awp_region fun K kk hK => ?_
              simp only [go_sem, h22]
              (repeat refine sd ?_)
              refine hK _ _ fun nx => ?_; clear hK K; try clear kk
              refine nmx ?_
              obtain ⟨s_8, h23, hh⟩ := bind_ex hh
              obtain ⟨h23a, h23c⟩ := sl_some h23
              have h23g := sl_le h23a
              have h23d := id h23c
              try simp only [Int.toNat_natCast, Int.reduceToNat] at h23d
              obtain ⟨h24, hh⟩ := chk_some hh
              refine awp_region fun K kk hK => ?_
              simp only [go_sem, h23a.1, h23a.2.1, h23a.2.2, h23d, h23g, h24]
              (repeat refine sd ?_)
              refine hK _ _ fun nx => ?_; clear hK K; try clear kk
              refine nmx ?_
              refine awp_region fun K kk hK => ?_
              simp only [go_sem]
              refine hK _ _ fun nx => ?_; clear hK K; try clear kk
              refine nmx ?_
              have ih' := ih _ _ hh nx
              refine cut_id ?_
              first | exact ih' | (simp only [api_Attr.pv_eq, api_Node.pv_eq, step_Step.pv_eq, diptychref11_Step.pv_eq, pvL, List.map_cons, List.map_nil, List.map_append, rune1] at ih' ⊢; exact ih') | (simp only [api_Attr.pv_eq, api_Node.pv_eq, step_Step.pv_eq, diptychref11_Step.pv_eq, pvL, List.map_cons, List.map_nil, List.map_append, rune1, h14, h16, h21] at ih' ⊢; exact ih')
            · rw [if_neg h21] at hh
              replace h21 := Bool.eq_false_iff.mpr h21
              refine awp_false (by first | exact congrArg PV.bool h21 | rfl) ?_
              refine awp_skip ?_; refine nmx ?_
              obtain ⟨s_9, h25, hh⟩ := bind_ex hh
              obtain ⟨h25a, h25c⟩ := sl_some h25
              have h25g := sl_le h25a
              have h25d := id h25c
              try simp only [Int.toNat_natCast, Int.reduceToNat] at h25d
              obtain ⟨h26, hh⟩ := chk_some hh
              refine awp_region fun K kk hK => ?_
              simp only [go_sem, h25a.1, h25a.2.1, h25a.2.2, h25d, h25g, h26]
              (repeat refine sd ?_)
              refine hK _ _ fun nx => ?_; clear hK K; try clear kk
              refine nmx ?_
              refine awp_region fun K kk hK => ?_
              simp only [go_sem]
              refine hK _ _ fun nx => ?_; clear hK K; try clear kk
              refine nmx ?_
              have ih' := ih _ _ hh nx
              refine cut_id ?_
              first | exact ih' | (simp only [api_Attr.pv_eq, api_Node.pv_eq, step_Step.pv_eq, diptychref11_Step.pv_eq, pvL, List.map_cons, List.map_nil, List.map_append, rune1] at ih' ⊢; exact ih') | (simp only [api_Attr.pv_eq, api_Node.pv_eq, step_Step.pv_eq, diptychref11_Step.pv_eq, pvL, List.map_cons, List.map_nil, List.map_append, rune1, h14, h16, h21] at ih' ⊢; exact ih')
        · rw [if_neg h14] at hh
          replace h14 := Bool.eq_false_iff.mpr h14
          refine awp_false (by first | exact congrArg PV.bool h14 | rfl) ?_
          refine awp_exit ?_; refine nmx ?_
          refine fragN ?_
          refine cut_id ?_
          refine ⟨_, (Option.some.inj hh), ?_⟩
          first | exact ⟨_, _, _, rfl⟩ | (simp only [api_Attr.pv_eq, api_Node.pv_eq, step_Step.pv_eq, diptychref11_Step.pv_eq, pvL, List.map_cons, List.map_nil, List.map_append, rune1]; exact ⟨_, _, _, rfl⟩) | (simp only [api_Attr.pv_eq, api_Node.pv_eq, step_Step.pv_eq, diptychref11_Step.pv_eq, pvL, List.map_cons, List.map_nil, List.map_append, rune1, h14]; exact ⟨_, _, _, rfl⟩)
    exact key _ _ _ f0 _
  · rintro s ⟨t, hless, out_10, rfl, i_11, v_12, nx, rfl⟩
    try dsimp only at hh
    refine nmy ?_
    first | (refine cut_less hless ?_; try refine cut_awp ?_) | refine frag_less hless ?_ | refine body_less hless ?_
    obtain ⟨h27, hh⟩ := chk_some hh
    refine awp_first fun K kk hK => ?_
    simp only [go_sem, h27]
    (repeat refine sd ?_)
    refine hK _ _ fun nx => ?_; clear hK K; try clear kk
    refine awp_ret ?_; refine nmx ?_
    obtain hR := Option.some.inj hh
    subst hR
    exact ret_p2
  · intro i s h; exact h.elim
  · intro s h; exact h.elim
theorem diptychref2_Head_ok (n_1 : api_Node) (R : Str) (hh : diptychref2_Head n_1 = some R) : PC Tryz.prog 88 [.agg [.str n_1.Kind, .str n_1.Text, .list 1 (n_1.Marks.map PV.str), .list 2 (n_1.Attrs.map api_Attr.pv), .list 5 (n_1.Kids.map api_Node.pv)]] (.str R) := by
  rw [diptychref2_Head] at hh
  refine start_diptychref2_Head rfl ?_
  refine awp_first fun K kk hK => ?_
  simp only [go_sem]
  refine hK _ _ fun nx => ?_; clear hK K; try clear kk
  refine awp_first fun K kk hK => ?_
  simp only [go_sem]
  refine hK _ _ fun nx => ?_; clear hK K; try clear kk
  refine awp_seq ?_
  refine awp_first fun K kk hK => ?_
  simp only [go_sem]
  refine hK _ _ fun nx => ?_; clear hK K; try clear kk
  by_cases h1 : (n_1.Kind == ([116, 101, 120, 116] : Str)) = true
  · rw [if_pos h1] at hh
    refine awp_true (by first | exact congrArg PV.bool h1 | rfl) ?_
    refine awp_seq ?_
    refine awp_first fun K kk hK => ?_
    simp only [go_sem]
    refine hK _ _ fun nx => ?_; clear hK K; try clear kk
    obtain ⟨e0, f0, hh⟩ := bind_ex hh
    obtain ⟨hlen0, f0⟩ := chk_some f0
    refine awp_fragE (CutTo (fun s => ∃ s_9, s_9 = e0 ∧ ∃ (i_10 : Int) (v_11 : Bool) (nx : Nat) (g1 : Nat), s = ⟨[(1, .box 1 g1 0), (3, .str s_9), (4, .int .i64 i_10), (13, .bool v_11)], [(1, g1, .var 28 [.str n_1.Kind, .str n_1.Text, .list 1 (n_1.Marks.map PV.str), .list 2 (n_1.Attrs.map api_Attr.pv), .list 5 (n_1.Kids.map api_Node.pv)])], nx⟩))
      (fun i s => False)
      (fun s => False) ?_ ?_ ?_ ?_
    · refine awp_block ?_
      refine awp_loopJ fun I hI => ?_
      have key : ∀ (suf pre : List Str) (i_5 : Int) (s_4 : Str), n_1.Marks = pre ++ suf → i_5 = (pre.length : Int) → diptychref2_Head_l0 suf i_5 s_4 = some e0 → ∀ (nx : Nat) (g1 : Nat), I ⟨[(1, .box 1 g1 0), (3, .str s_4), (4, .int .i64 i_5)], [(1, g1, .var 28 [.str n_1.Kind, .str n_1.Text, .list 1 (n_1.Marks.map PV.str), .list 2 (n_1.Attrs.map api_Attr.pv), .list 5 (n_1.Kids.map api_Node.pv)])], nx⟩ := by
        intro suf
        induction suf with
        | nil =>
          intro pre i_5 s_4 hsplit hidx hh nx g1
          rw [diptychref2_Head_l0] at hh
          refine hI _ ?_
          have h16 := walk_nil hsplit hidx
          refine awp_seq ?_
          refine awp_first fun K kk hK => ?_
          simp only [go_sem]
          refine hK _ _ fun nx => ?_; clear hK K; try clear kk
          refine awp_false (by first | exact congrArg PV.bool h16 | rfl) ?_
          refine awp_exit ?_; refine nmx ?_
          refine fragN ?_
          refine cut_id ?_
          refine ⟨_, (Option.some.inj hh), ?_⟩
          first | exact ⟨_, _, _, _, rfl⟩ | (simp only [api_Attr.pv_eq, api_Node.pv_eq, step_Step.pv_eq, diptychref11_Step.pv_eq, pvL, List.map_cons, List.map_nil, List.map_append, rune1]; exact ⟨_, _, _, _, rfl⟩) | (simp only [api_Attr.pv_eq, api_Node.pv_eq, step_Step.pv_eq, diptychref11_Step.pv_eq, pvL, List.map_cons, List.map_nil, List.map_append, rune1, h1, h16]; exact ⟨_, _, _, _, rfl⟩)
        | cons y_8 suf ih =>
          intro pre i_5 s_4 hsplit hidx hh nx g1
          rw [diptychref2_Head_l0] at hh
          refine hI _ ?_
          obtain ⟨hl0a, hl0b, hl0d, hl0w, h16⟩ := walk_cons (f := PV.str) hsplit hidx hlen0
          refine awp_seq ?_
          refine awp_first fun K kk hK => ?_
          simp only [go_sem]
          refine hK _ _ fun nx => ?_; clear hK K; try clear kk
          refine awp_true (by first | exact congrArg PV.bool h16 | rfl) ?_
          refine awp_skip ?_; refine nmx ?_
          refine awp_seq ?_
          refine awp_block ?_
          refine awp_seq ?_
          refine awp_first fun K kk hK => ?_
          simp only [go_sem, hl0a, hl0b, hl0d, hl0w]
          refine hK _ _ fun nx => ?_; clear hK K; try clear kk
          by_cases h17 : (decide (i_5 > (0 : Int))) = true
          · rw [if_pos h17] at hh
            refine awp_true (by first | exact congrArg PV.bool h17 | rfl) ?_
            obtain ⟨h18, hh⟩ := chk_some hh
            refine awp_region fun K kk hK => ?_
            simp only [go_sem, h18, hl0a, hl0b, hl0d, hl0w]
            (repeat refine sd ?_)
            refine hK _ _ fun nx => ?_; clear hK K; try clear kk
            refine nmx ?_
            obtain ⟨h19, hh⟩ := chk_some hh
            refine awp_region fun K kk hK => ?_
            simp only [go_sem, h19, hl0a, hl0b, hl0d, hl0w]
            (repeat refine sd ?_)
            refine hK _ _ fun nx => ?_; clear hK K; try clear kk
            refine nmx ?_
            refine awp_region fun K kk hK => ?_
            simp only [go_sem, hl0a, hl0b, hl0d, hl0w]
            refine hK _ _ fun nx => ?_; clear hK K; try clear kk
            refine nmx ?_
            have ih' := ih (pre ++ [y_8]) (i_5 + 1) _ (by rw [hsplit]; simp) (by simp [hidx]) hh nx
            refine cut_id ?_
            first | exact ih' _ | (simp only [api_Attr.pv_eq, api_Node.pv_eq, step_Step.pv_eq, diptychref11_Step.pv_eq, pvL, List.map_cons, List.map_nil, List.map_append, rune1] at ih' ⊢; exact ih' _) | (simp only [api_Attr.pv_eq, api_Node.pv_eq, step_Step.pv_eq, diptychref11_Step.pv_eq, pvL, List.map_cons, List.map_nil, List.map_append, rune1, h1, h16, h17] at ih' ⊢; exact ih' _)
          · rw [if_neg h17] at hh
            replace h17 := Bool.eq_false_iff.mpr h17
            refine awp_false (by first | exact congrArg PV.bool h17 | rfl) ?_
            refine awp_skip ?_; refine nmx ?_
            obtain ⟨h20, hh⟩ := chk_some hh
            refine awp_region fun K kk hK => ?_
            simp only [go_sem, h20, hl0a, hl0b, hl0d, hl0w]
            (repeat refine sd ?_)
            refine hK _ _ fun nx => ?_; clear hK K; try clear kk
            refine nmx ?_
            refine awp_region fun K kk hK => ?_
            simp only [go_sem, hl0a, hl0b, hl0d, hl0w]
            refine hK _ _ fun nx => ?_; clear hK K; try clear kk
            refine nmx ?_
            have ih' := ih (pre ++ [y_8]) (i_5 + 1) _ (by rw [hsplit]; simp) (by simp [hidx]) hh nx
            refine cut_id ?_
            first | exact ih' _ | (simp only [api_Attr.pv_eq, api_Node.pv_eq, step_Step.pv_eq, diptychref11_Step.pv_eq, pvL, List.map_cons, List.map_nil, List.map_append, rune1] at ih' ⊢; exact ih' _) | (simp only [api_Attr.pv_eq, api_Node.pv_eq, step_Step.pv_eq, diptychref11_Step.pv_eq, pvL, List.map_cons, List.map_nil, List.map_append, rune1, h1, h16, h17] at ih' ⊢; exact ih' _)
      exact key n_1.Marks [] _ _ rfl rfl f0 _ _
    · rintro s ⟨t, hless, s_9, rfl, i_10, v_11, nx, g1, rfl⟩
      try dsimp only at hh
      refine nmy ?_
      first | (refine cut_less hless ?_; try refine cut_awp ?_) | refine frag_less hless ?_ | refine body_less hless ?_
      refine awp_seq ?_
      refine awp_first fun K kk hK => ?_
      simp only [go_sem]
      refine hK _ _ fun nx => ?_; clear hK K; try clear kk
      by_cases h21 : (decide ((n_1.Marks.length : Int) > (0 : Int))) = true
      · rw [if_pos h21] at hh
        refine awp_true (by first | exact congrArg PV.bool h21 | rfl) ?_
        obtain ⟨h22, hh⟩ := chk_some hh
        obtain ⟨h23, hh⟩ := chk_some hh
        refine awp_region fun K kk hK => ?_
        simp only [go_sem, h22, h23]
        (repeat refine sd ?_)
        refine hK _ _ fun nx => ?_; clear hK K; try clear kk
        refine nmx ?_
        refine awp_first fun K kk hK => ?_
        simp only [go_sem]
        refine hK _ _ fun nx => ?_; clear hK K; try clear kk
        refine awp_ret ?_; refine nmx ?_
        obtain hR := Option.some.inj hh
        subst hR
        exact ret_p2
      · rw [if_neg h21] at hh
        replace h21 := Bool.eq_false_iff.mpr h21
        refine awp_false (by first | exact congrArg PV.bool h21 | rfl) ?_
        refine awp_skip ?_; refine nmx ?_
        refine awp_first fun K kk hK => ?_
        simp only [go_sem]
        refine hK _ _ fun nx => ?_; clear hK K; try clear kk
        refine awp_ret ?_; refine nmx ?_
        obtain hR := Option.some.inj hh
        subst hR
        exact ret_p2
    · intro i s h; exact h.elim
    · intro s h; exact h.elim
  · rw [if_neg h1] at hh
    replace h1 := Bool.eq_false_iff.mpr h1
    refine awp_false (by first | exact congrArg PV.bool h1 | rfl) ?_
    refine awp_skip ?_; refine nmx ?_
    refine awp_seq ?_
    refine awp_first fun K kk hK => ?_
    simp only [go_sem]
    refine hK _ _ fun nx => ?_; clear hK K; try clear kk
    obtain ⟨e1, f1, hh⟩ := bind_ex hh
    obtain ⟨hlen1, f1⟩ := chk_some f1
    refine awp_fragE (CutTo (fun s => ∃ s_25, s_25 = e1 ∧ ∃ (i_26 : Int) (v_27 : Bool) (nx : Nat) (g1 : Nat), s = ⟨[(1, .box 1 g1 0), (3, .str s_25), (5, .int .i64 i_26), (39, .bool v_27)], [(1, g1, .var 28 [.str n_1.Kind, .str n_1.Text, .list 1 (n_1.Marks.map PV.str), .list 2 (n_1.Attrs.map api_Attr.pv), .list 5 (n_1.Kids.map api_Node.pv)])], nx⟩))
      (fun i s => False)
      (fun s => False) ?_ ?_ ?_ ?_
    · refine awp_block ?_
      refine awp_loopJ fun I hI => ?_
      have key : ∀ (suf pre : List api_Attr) (i_17 : Int) (s_16 : Str), n_1.Attrs = pre ++ suf → i_17 = (pre.length : Int) → diptychref2_Head_l1 suf i_17 s_16 = some e1 → ∀ (nx : Nat) (g1 : Nat), I ⟨[(1, .box 1 g1 0), (3, .str s_16), (5, .int .i64 i_17)], [(1, g1, .var 28 [.str n_1.Kind, .str n_1.Text, .list 1 (n_1.Marks.map PV.str), .list 2 (n_1.Attrs.map api_Attr.pv), .list 5 (n_1.Kids.map api_Node.pv)])], nx⟩ := by
        intro suf
        induction suf with
        | nil =>
          intro pre i_17 s_16 hsplit hidx hh nx g1
          rw [diptychref2_Head_l1] at hh
          refine hI _ ?_
          have h50 := walk_nil hsplit hidx
          refine awp_seq ?_
          refine awp_first fun K kk hK => ?_
          simp only [go_sem]
          refine hK _ _ fun nx => ?_; clear hK K; try clear kk
          refine awp_false (by first | exact congrArg PV.bool h50 | rfl) ?_
          refine awp_exit ?_; refine nmx ?_
          refine fragN ?_
          refine cut_id ?_
          refine ⟨_, (Option.some.inj hh), ?_⟩
          first | exact ⟨_, _, _, _, rfl⟩ | (simp only [api_Attr.pv_eq, api_Node.pv_eq, step_Step.pv_eq, diptychref11_Step.pv_eq, pvL, List.map_cons, List.map_nil, List.map_append, rune1]; exact ⟨_, _, _, _, rfl⟩) | (simp only [api_Attr.pv_eq, api_Node.pv_eq, step_Step.pv_eq, diptychref11_Step.pv_eq, pvL, List.map_cons, List.map_nil, List.map_append, rune1, h1, h50]; exact ⟨_, _, _, _, rfl⟩)
        | cons y_22 suf ih =>
          intro pre i_17 s_16 hsplit hidx hh nx g1
          rw [diptychref2_Head_l1] at hh
          refine hI _ ?_
          obtain ⟨hl1a, hl1b, hl1d, hl1w, h50⟩ := walk_cons (f := api_Attr.pv) hsplit hidx hlen1
          refine awp_seq ?_
          refine awp_first fun K kk hK => ?_
          simp only [go_sem]
          refine hK _ _ fun nx => ?_; clear hK K; try clear kk
          refine awp_true (by first | exact congrArg PV.bool h50 | rfl) ?_
          refine awp_skip ?_; refine nmx ?_
          refine awp_seq ?_
          refine awp_block ?_
          refine awp_seq ?_
          refine awp_first fun K kk hK => ?_
          simp only [go_sem, hl1a, hl1b, hl1d, hl1w]
          refine hK _ _ fun nx => ?_; clear hK K; try clear kk
          by_cases h51 : (decide (i_17 > (0 : Int))) = true
          · rw [if_pos h51] at hh
            refine awp_true (by first | exact congrArg PV.bool h51 | rfl) ?_
            obtain ⟨h52, hh⟩ := chk_some hh
            refine awp_region fun K kk hK => ?_
            simp only [go_sem, h52, hl1a, hl1b, hl1d, hl1w]
            (repeat refine sd ?_)
            refine hK _ _ fun nx => ?_; clear hK K; try clear kk
            refine nmx ?_
            obtain ⟨h53, hh⟩ := chk_some hh
            obtain ⟨h54, hh⟩ := chk_some hh
            obtain ⟨quote_23, h55, hh⟩ := bind_ex hh
            obtain ⟨h56, hh⟩ := chk_some hh
            refine awp_region fun K kk hK => ?_
            simp only [go_sem, h53, h54, h56, hl1a, hl1b, hl1d, hl1w]
            (repeat refine sd ?_)
            refine step_call2 (diptychref2_Quote_ok _ _ h55) (by (try simp only [go_sem, h53, h54, h56, hl1a, hl1b, hl1d, hl1w]) <;> exact wkl) (by rfl) (by rfl) ?_
            simp only [go_sem, h53, h54, h56, hl1a, hl1b, hl1d, hl1w]
            (repeat refine sd ?_)
            refine hK _ _ fun nx => ?_; clear hK K; try clear kk
            refine nmx ?_
            refine awp_region fun K kk hK => ?_
            simp only [go_sem, hl1a, hl1b, hl1d, hl1w]
            refine hK _ _ fun nx => ?_; clear hK K; try clear kk
            refine nmx ?_
            have ih' := ih (pre ++ [y_22]) (i_17 + 1) _ (by rw [hsplit]; simp) (by simp [hidx]) hh nx
            refine cut_id ?_
            first | exact ih' _ | (simp only [api_Attr.pv_eq, api_Node.pv_eq, step_Step.pv_eq, diptychref11_Step.pv_eq, pvL, List.map_cons, List.map_nil, List.map_append, rune1] at ih' ⊢; exact ih' _) | (simp only [api_Attr.pv_eq, api_Node.pv_eq, step_Step.pv_eq, diptychref11_Step.pv_eq, pvL, List.map_cons, List.map_nil, List.map_append, rune1, h1, h50, h51] at ih' ⊢; exact ih' _)
          · rw [if_neg h51] at hh
            replace h51 := Bool.eq_false_iff.mpr h51
            refine awp_false (by first | exact congrArg PV.bool h51 | rfl) ?_
            refine awp_skip ?_; refine nmx ?_
            obtain ⟨h57, hh⟩ := chk_some hh
            obtain ⟨h58, hh⟩ := chk_some hh
            obtain ⟨quote_24, h59, hh⟩ := bind_ex hh
            obtain ⟨h60, hh⟩ := chk_some hh
            refine awp_region fun K kk hK => ?_
            simp only [go_sem, h57, h58, h60, hl1a, hl1b, hl1d, hl1w]
            (repeat refine sd ?_)
            refine step_call2 (diptychref2_Quote_ok _ _ h59) (by (try simp only [go_sem, h57, h58, h60, hl1a, hl1b, hl1d, hl1w]) <;> exact wkl) (by rfl) (by rfl) ?_
            simp only [go_sem, h57, h58, h60, hl1a, hl1b, hl1d, hl1w]
            (repeat refine sd ?_)
            refine hK _ _ fun nx => ?_; clear hK K; try clear kk
            refine nmx ?_
            refine awp_region fun K kk hK => ?_
            simp only [go_sem, hl1a, hl1b, hl1d, hl1w]
            refine hK _ _ fun nx => ?_; clear hK K; try clear kk
            refine nmx ?_
            have ih' := ih (pre ++ [y_22]) (i_17 + 1) _ (by rw [hsplit]; simp) (by simp [hidx]) hh nx
            refine cut_id ?_
            first | exact ih' _ | (simp only [api_Attr.pv_eq, api_Node.pv_eq, step_Step.pv_eq, diptychref11_Step.pv_eq, pvL, List.map_cons, List.map_nil, List.map_append, rune1] at ih' ⊢; exact ih' _) | (simp only [api_Attr.pv_eq, api_Node.pv_eq, step_Step.pv_eq, diptychref11_Step.pv_eq, pvL, List.map_cons, List.map_nil, List.map_append, rune1, h1, h50, h51] at ih' ⊢; exact ih' _)
      exact key n_1.Attrs [] _ _ rfl rfl f1 _ _
    · rintro s ⟨t, hless, s_25, rfl, i_26, v_27, nx, g1, rfl⟩
      try dsimp only at hh
      refine nmy ?_
      first | (refine cut_less hless ?_; try refine cut_awp ?_) | refine frag_less hless ?_ | refine body_less hless ?_
      refine awp_seq ?_
      refine awp_first fun K kk hK => ?_
      simp only [go_sem]
      refine hK _ _ fun nx => ?_; clear hK K; try clear kk
      by_cases h61 : (decide ((n_1.Attrs.length : Int) > (0 : Int))) = true
      · rw [if_pos h61] at hh
        refine awp_true (by first | exact congrArg PV.bool h61 | rfl) ?_
        obtain ⟨h62, hh⟩ := chk_some hh
        obtain ⟨h63, hh⟩ := chk_some hh
        refine awp_region fun K kk hK => ?_
        simp only [go_sem, h62, h63]
        (repeat refine sd ?_)
        refine hK _ _ fun nx => ?_; clear hK K; try clear kk
        refine nmx ?_
        obtain ⟨h64, hh⟩ := chk_some hh
        refine awp_first fun K kk hK => ?_
        simp only [go_sem, h64]
        (repeat refine sd ?_)
        refine hK _ _ fun nx => ?_; clear hK K; try clear kk
        refine awp_ret ?_; refine nmx ?_
        obtain hR := Option.some.inj hh
        subst hR
        exact ret_p2
      · rw [if_neg h61] at hh
        replace h61 := Bool.eq_false_iff.mpr h61
        refine awp_false (by first | exact congrArg PV.bool h61 | rfl) ?_
        refine awp_skip ?_; refine nmx ?_
        obtain ⟨h65, hh⟩ := chk_some hh
        refine awp_first fun K kk hK => ?_
        simp only [go_sem, h65]
        (repeat refine sd ?_)
        refine hK _ _ fun nx => ?_; clear hK K; try clear kk
        refine awp_ret ?_; refine nmx ?_
        obtain hR := Option.some.inj hh
        subst hR
        exact ret_p2
    · intro i s h; exact h.elim
    · intro s h; exact h.elim
theorem diptychref2_Write_grp : ∀ kr : Nat, (∀ (n_1 : api_Node) (R : Str), diptychref2_Write_k kr n_1 = some R → PC Tryz.prog 93 [.agg [.str n_1.Kind, .str n_1.Text, .list 1 (n_1.Marks.map PV.str), .list 2 (n_1.Attrs.map api_Attr.pv), .list 5 (n_1.Kids.map api_Node.pv)]] (.str R)) ∧
    (∀ (l_1 : (List api_Node)) (R : Str), diptychref2_WriteAll_k kr l_1 = some R → PC Tryz.prog 103 [.list 5 (l_1.map api_Node.pv)] (.str R)) := by
  intro kr
  induction kr with
  | zero => exact ⟨(by intro n_1 R hh; rw [diptychref2_Write_k] at hh; cases hh), (by intro l_1 R hh; rw [diptychref2_WriteAll_k] at hh; cases hh)⟩
  | succ kr ih =>
    obtain ⟨ih_diptychref2_Write, ih_diptychref2_WriteAll⟩ := ih
    refine ⟨?_, ?_⟩
    · intro n_1 R hh
      rw [diptychref2_Write_k] at hh
      refine start_diptychref2_Write rfl ?_
      refine awp_first fun K kk hK => ?_
      simp only [go_sem]
      refine hK _ _ fun nx => ?_; clear hK K; try clear kk
      refine awp_seq ?_
      refine awp_first fun K kk hK => ?_
      simp only [go_sem]
      refine hK _ _ fun nx => ?_; clear hK K; try clear kk
      by_cases h1 : (n_1.Kind == ([116, 101, 120, 116] : Str)) = true
      · rw [if_pos h1] at hh
        refine awp_true (by first | exact congrArg PV.bool h1 | rfl) ?_
        obtain ⟨quote_2, h2, hh⟩ := bind_ex hh
        obtain ⟨head_3, h3, hh⟩ := bind_ex hh
        obtain ⟨h4, hh⟩ := chk_some hh
        refine awp_first fun K kk hK => ?_
        simp only [go_sem, h4]
        (repeat refine sd ?_)
        refine step_call2 (diptychref2_Quote_ok _ _ h2) (by (try simp only [go_sem, h4]) <;> exact wkl) (by rfl) (by rfl) ?_
        simp only [go_sem, h4]
        (repeat refine sd ?_)
        refine step_call2 (diptychref2_Head_ok _ _ h3) (by (try simp only [go_sem, h4]) <;> exact wkl) (by rfl) (by rfl) ?_
        simp only [go_sem, h4]
        (repeat refine sd ?_)
        refine hK _ _ fun nx => ?_; clear hK K; try clear kk
        refine awp_ret ?_; refine nmx ?_
        obtain hR := Option.some.inj hh
        subst hR
        exact ret_p2
      · rw [if_neg h1] at hh
        replace h1 := Bool.eq_false_iff.mpr h1
        refine awp_false (by first | exact congrArg PV.bool h1 | rfl) ?_
        refine awp_skip ?_; refine nmx ?_
        obtain ⟨head_4, h5, hh⟩ := bind_ex hh
        obtain ⟨h6, hh⟩ := chk_some hh
        obtain ⟨writea_5, h7, hh⟩ := bind_ex hh
        obtain ⟨h8, hh⟩ := chk_some hh
        obtain ⟨h9, hh⟩ := chk_some hh
        refine awp_first fun K kk hK => ?_
        simp only [go_sem, h6, h8, h9]
        (repeat refine sd ?_)
        refine step_call2 (diptychref2_Head_ok _ _ h5) (by (try simp only [go_sem, h6, h8, h9]) <;> exact wkl) (by rfl) (by rfl) ?_
        simp only [go_sem, h6, h8, h9]
        (repeat refine sd ?_)
        refine step_call2 (ih_diptychref2_WriteAll _ _ h7) (by (try simp only [go_sem, h6, h8, h9]) <;> exact wkl) (by rfl) (by rfl) ?_
        simp only [go_sem, h6, h8, h9]
        (repeat refine sd ?_)
        refine hK _ _ fun nx => ?_; clear hK K; try clear kk
        refine awp_ret ?_; refine nmx ?_
        obtain hR := Option.some.inj hh
        subst hR
        exact ret_p2
    · intro l_1 R hh
      rw [diptychref2_WriteAll_k] at hh
      refine start_diptychref2_WriteAll rfl ?_
      refine awp_first fun K kk hK => ?_
      simp only [go_sem]
      refine hK _ _ fun nx => ?_; clear hK K; try clear kk
      refine awp_first fun K kk hK => ?_
      simp only [go_sem]
      refine hK _ _ fun nx => ?_; clear hK K; try clear kk
      refine awp_seq ?_
      refine awp_first fun K kk hK => ?_
      simp only [go_sem]
      refine hK _ _ fun nx => ?_; clear hK K; try clear kk
      obtain ⟨e0, f0, hh⟩ := bind_ex hh
      obtain ⟨hlen0, f0⟩ := chk_some f0
      refine awp_fragE (CutTo (fun s => ∃ s_10, s_10 = e0 ∧ ∃ (i_11 : Int) (v_12 : Bool) (nx : Nat), s = ⟨[(0, .list 5 (l_1.map api_Node.pv)), (3, .str s_10), (4, .int .i64 i_11), (8, .bool v_12)], [], nx⟩))
        (fun i s => False)
        (fun s => False) ?_ ?_ ?_ ?_
      · refine awp_block ?_
        refine awp_loopJ fun I hI => ?_
        have key : ∀ (suf pre : List api_Node) (i_5 : Int) (s_4 : Str), l_1 = pre ++ suf → i_5 = (pre.length : Int) → diptychref2_WriteAll_l0 (diptychref2_Write_k kr) suf i_5 s_4 = some e0 → ∀ (nx : Nat), I ⟨[(0, .list 5 (l_1.map api_Node.pv)), (3, .str s_4), (4, .int .i64 i_5)], [], nx⟩ := by
          intro suf
          induction suf with
          | nil =>
            intro pre i_5 s_4 hsplit hidx hh nx
            rw [diptychref2_WriteAll_l0] at hh
            refine hI _ ?_
            have h9 := walk_nil hsplit hidx
            refine awp_seq ?_
            refine awp_first fun K kk hK => ?_
            simp only [go_sem]
            refine hK _ _ fun nx => ?_; clear hK K; try clear kk
            refine awp_false (by first | exact congrArg PV.bool h9 | rfl) ?_
            refine awp_exit ?_; refine nmx ?_
            refine fragN ?_
            refine cut_id ?_
            refine ⟨_, (Option.some.inj hh), ?_⟩
            first | exact ⟨_, _, _, rfl⟩ | (simp only [api_Attr.pv_eq, api_Node.pv_eq, step_Step.pv_eq, diptychref11_Step.pv_eq, pvL, List.map_cons, List.map_nil, List.map_append, rune1]; exact ⟨_, _, _, rfl⟩) | (simp only [api_Attr.pv_eq, api_Node.pv_eq, step_Step.pv_eq, diptychref11_Step.pv_eq, pvL, List.map_cons, List.map_nil, List.map_append, rune1, h9]; exact ⟨_, _, _, rfl⟩)
          | cons y_8 suf ih =>
            intro pre i_5 s_4 hsplit hidx hh nx
            rw [diptychref2_WriteAll_l0] at hh
            refine hI _ ?_
            obtain ⟨hl0a, hl0b, hl0d, hl0w, h9⟩ := walk_cons (f := api_Node.pv) hsplit hidx hlen0
            refine awp_seq ?_
            refine awp_first fun K kk hK => ?_
            simp only [go_sem]
            refine hK _ _ fun nx => ?_; clear hK K; try clear kk
            refine awp_true (by first | exact congrArg PV.bool h9 | rfl) ?_
            refine awp_skip ?_; refine nmx ?_
            refine awp_seq ?_
            refine awp_block ?_
            obtain ⟨write_9, h10, hh⟩ := bind_ex hh
            obtain ⟨h11, hh⟩ := chk_some hh
            refine awp_region fun K kk hK => ?_
            simp only [go_sem, h11, hl0a, hl0b, hl0d, hl0w]
            (repeat refine sd ?_)
            refine step_call2 (ih_diptychref2_Write _ _ h10) (by (try simp only [go_sem, h11, hl0a, hl0b, hl0d, hl0w]) <;> exact wkl) (by rfl) (by rfl) ?_
            simp only [go_sem, h11, hl0a, hl0b, hl0d, hl0w]
            (repeat refine sd ?_)
            refine hK _ _ fun nx => ?_; clear hK K; try clear kk
            refine nmx ?_
            refine awp_region fun K kk hK => ?_
            simp only [go_sem, hl0a, hl0b, hl0d, hl0w]
            refine hK _ _ fun nx => ?_; clear hK K; try clear kk
            refine nmx ?_
            have ih' := ih (pre ++ [y_8]) (i_5 + 1) _ (by rw [hsplit]; simp) (by simp [hidx]) hh nx
            refine cut_id ?_
            first | exact ih' | (simp only [api_Attr.pv_eq, api_Node.pv_eq, step_Step.pv_eq, diptychref11_Step.pv_eq, pvL, List.map_cons, List.map_nil, List.map_append, rune1] at ih' ⊢; exact ih') | (simp only [api_Attr.pv_eq, api_Node.pv_eq, step_Step.pv_eq, diptychref11_Step.pv_eq, pvL, List.map_cons, List.map_nil, List.map_append, rune1, h9] at ih' ⊢; exact ih')
        exact key l_1 [] _ _ rfl rfl f0 _
      · rintro s ⟨t, hless, s_10, rfl, i_11, v_12, nx, rfl⟩
        try dsimp only at hh
        refine nmy ?_
        first | (refine cut_less hless ?_; try refine cut_awp ?_) | refine frag_less hless ?_ | refine body_less hless ?_
        refine awp_first fun K kk hK => ?_
        simp only [go_sem]
        refine hK _ _ fun nx => ?_; clear hK K; try clear kk
        refine awp_ret ?_; refine nmx ?_
        obtain hR := Option.some.inj hh
        subst hR
        exact ret_p2
      · intro i s h; exact h.elim
      · intro s h; exact h.elim
theorem diptychref2_Write_ok (n_1 : api_Node) (R : Str) (hh : diptychref2_Write n_1 = some R) : PC Tryz.prog 93 [.agg [.str n_1.Kind, .str n_1.Text, .list 1 (n_1.Marks.map PV.str), .list 2 (n_1.Attrs.map api_Attr.pv), .list 5 (n_1.Kids.map api_Node.pv)]] (.str R) := by
  rw [diptychref2_Write] at hh
  obtain ⟨kr, hh⟩ := lim_some hh
  exact (diptychref2_Write_grp kr).1 _ _ hh
theorem diptychref2_WriteAll_ok (l_1 : (List api_Node)) (R : Str) (hh : diptychref2_WriteAll l_1 = some R) : PC Tryz.prog 103 [.list 5 (l_1.map api_Node.pv)] (.str R) := by
  rw [diptychref2_WriteAll] at hh
  obtain ⟨kr, hh⟩ := lim_some hh
  exact (diptychref2_Write_grp kr).2 _ _ hh

end Go.Proofs.YtclohbgnaopjfaaGreatDoor
