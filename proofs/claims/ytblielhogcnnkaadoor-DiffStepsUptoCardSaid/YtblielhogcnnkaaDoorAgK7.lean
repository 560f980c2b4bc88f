/- What the functions answer, the program answers (7). -/
import Derived.Test.YtblielhogcnnkaaDoorAgC
import Derived.Test.YtblielhogcnnkaaDoorAgF
import Derived.Test.YtblielhogcnnkaaDoorAgK3
import Derived.Test.YtblielhogcnnkaaDoorAgK4
import Derived.Test.YtblielhogcnnkaaDoorAgK6
namespace Go.Proofs.YtblielhogcnnkaaDoor
set_option linter.unusedSimpArgs false
set_option linter.unusedVariables false
open Go
set_option maxRecDepth 100000

theorem diptychlaw18_same_ok (a_1 : (List Int)) (b_2 : (List Int)) (R : Bool) (hh : diptychlaw18_same a_1 b_2 = some R) : PC Tryd.prog 25 [.list 1 (a_1.map (PV.int .i64)), .list 1 (b_2.map (PV.int .i64))] (.bool R) := by
  rw [diptychlaw18_same] at hh
  refine start_diptychlaw18_same rfl ?_
  refine awp_first fun K kk hK => ?_
  simp only [go_sem]
  refine hK _ _ fun nx => ?_; clear hK K; try clear kk
  refine awp_seq ?_
  refine awp_first fun K kk hK => ?_
  simp only [go_sem]
  refine hK _ _ fun nx => ?_; clear hK K; try clear kk
  by_cases h1 : ((a_1.length : Int) != (b_2.length : Int)) = true
  · rw [if_pos h1] at hh
    refine awp_true (by first | exact congrArg PV.bool h1 | rfl) ?_
    refine awp_first fun K kk hK => ?_
    simp only [go_sem]
    refine hK _ _ fun nx => ?_; clear hK K; try clear kk
    refine awp_ret ?_; refine nmx ?_
    obtain hR := Option.some.inj hh
    subst hR
    exact ret_p2
  · rw [if_neg h1] at hh
    replace h1 := Bool.eq_false_iff.mpr h1
    refine awp_false (by first | exact congrArg PV.bool h1 | rfl) ?_
    refine awp_skip ?_; refine nmx ?_
    refine awp_seq ?_
    refine awp_first fun K kk hK => ?_
    simp only [go_sem]
    refine hK _ _ fun nx => ?_; clear hK K; try clear kk
    obtain ⟨e0, f0, hh⟩ := bind_ex hh
    obtain ⟨hlen0, f0⟩ := chk_some f0
    refine awp_fragE (CutTo (fun s => .inr () = e0 ∧ ∃ (i_11 : Int) (v_12 : Bool) (nx : Nat), s = ⟨[(0, .list 1 (a_1.map (PV.int .i64))), (1, .list 1 (b_2.map (PV.int .i64))), (5, .int .i64 i_11), (14, .bool v_12)], [], nx⟩))
      (fun i s => False)
      (fun s => ∃ res_10, .inl res_10 = e0 ∧ bodyR Tryd.prog [.tmp 4] (.bool res_10) [] .ret s) ?_ ?_ ?_ ?_
    · refine awp_block ?_
      refine awp_loopJ fun I hI => ?_
      have key : ∀ (suf pre : List Int) (i_5 : Int), a_1 = pre ++ suf → i_5 = (pre.length : Int) → diptychlaw18_same_l0 b_2 suf i_5 = some e0 → ∀ (nx : Nat), I ⟨[(0, .list 1 (a_1.map (PV.int .i64))), (1, .list 1 (b_2.map (PV.int .i64))), (5, .int .i64 i_5)], [], nx⟩ := by
        intro suf
        induction suf with
        | nil =>
          intro pre i_5 hsplit hidx hh nx
          rw [diptychlaw18_same_l0] at hh
          refine hI _ ?_
          have h10 := walk_nil hsplit hidx
          refine awp_seq ?_
          refine awp_first fun K kk hK => ?_
          simp only [go_sem]
          refine hK _ _ fun nx => ?_; clear hK K; try clear kk
          refine awp_false (by first | exact congrArg PV.bool h10 | rfl) ?_
          refine awp_exit ?_; refine nmx ?_
          refine fragN ?_
          refine cut_id ?_
          refine ⟨(Option.some.inj hh), ?_⟩
          first | exact ⟨_, _, _, rfl⟩ | (simp only [api_Attr.pv_eq, api_Node.pv_eq, step_Step.pv_eq, diff_change.pv_eq, diptychref11_Step.pv_eq, pvL, List.map_cons, List.map_nil, List.map_append, rune1]; exact ⟨_, _, _, rfl⟩) | (simp only [api_Attr.pv_eq, api_Node.pv_eq, step_Step.pv_eq, diff_change.pv_eq, diptychref11_Step.pv_eq, pvL, List.map_cons, List.map_nil, List.map_append, rune1, h1, h10]; exact ⟨_, _, _, rfl⟩)
        | cons y_8 suf ih =>
          intro pre i_5 hsplit hidx hh nx
          rw [diptychlaw18_same_l0] at hh
          refine hI _ ?_
          obtain ⟨hl0a, hl0b, hl0d, hl0w, h10⟩ := walk_cons (f := (PV.int .i64)) hsplit hidx hlen0
          refine awp_seq ?_
          refine awp_first fun K kk hK => ?_
          simp only [go_sem]
          refine hK _ _ fun nx => ?_; clear hK K; try clear kk
          refine awp_true (by first | exact congrArg PV.bool h10 | rfl) ?_
          refine awp_skip ?_; refine nmx ?_
          refine awp_seq ?_
          refine awp_block ?_
          obtain ⟨x_9, h11, hh⟩ := bind_ex hh
          obtain ⟨h11a, h11b, h11c⟩ := rd_some h11
          have h11d := rd_get (f := (PV.int .i64)) h11c
          have h11f := rd_more (f := (PV.int .i64)) h11c
          try simp only [Int.toNat_natCast, Int.reduceToNat] at h11d h11f
          refine awp_first fun K kk hK => ?_
          simp only [go_sem, h11a, h11b, h11d, h11f.1, h11f.2, hl0a, hl0b, hl0d, hl0w]
          (repeat refine sd ?_)
          refine hK _ _ fun nx => ?_; clear hK K; try clear kk
          by_cases h12 : (y_8 != x_9) = true
          · rw [if_pos h12] at hh
            refine awp_true (by first | exact congrArg PV.bool h12 | rfl) ?_
            refine awp_first fun K kk hK => ?_
            simp only [go_sem, hl0a, hl0b, hl0d, hl0w]
            refine hK _ _ fun nx => ?_; clear hK K; try clear kk
            refine awp_ret ?_; refine nmx ?_
            refine fragR ⟨_, (Option.some.inj hh), ?_⟩
            exact ret_p2
          · rw [if_neg h12] at hh
            replace h12 := Bool.eq_false_iff.mpr h12
            refine awp_false (by first | exact congrArg PV.bool h12 | rfl) ?_
            refine awp_skip ?_; refine nmx ?_
            refine awp_region fun K kk hK => ?_
            simp only [go_sem, hl0a, hl0b, hl0d, hl0w]
            refine hK _ _ fun nx => ?_; clear hK K; try clear kk
            refine nmx ?_
            have ih' := ih (pre ++ [y_8]) (i_5 + 1) (by rw [hsplit]; simp) (by simp [hidx]) hh nx
            refine cut_id ?_
            first | exact ih' | (simp only [api_Attr.pv_eq, api_Node.pv_eq, step_Step.pv_eq, diff_change.pv_eq, diptychref11_Step.pv_eq, pvL, List.map_cons, List.map_nil, List.map_append, rune1] at ih' ⊢; exact ih') | (simp only [api_Attr.pv_eq, api_Node.pv_eq, step_Step.pv_eq, diff_change.pv_eq, diptychref11_Step.pv_eq, pvL, List.map_cons, List.map_nil, List.map_append, rune1, h1, h10, h12] at ih' ⊢; exact ih')
      exact key a_1 [] _ rfl rfl f0 _
    · rintro s ⟨t, hless, rfl, i_11, v_12, nx, rfl⟩
      try dsimp only at hh
      refine nmy ?_
      first | (refine cut_less hless ?_; try refine cut_awp ?_) | refine frag_less hless ?_ | refine body_less hless ?_
      refine awp_first fun K kk hK => ?_
      simp only [go_sem]
      refine hK _ _ fun nx => ?_; clear hK K; try clear kk
      refine awp_ret ?_; refine nmx ?_
      obtain hR := Option.some.inj hh
      subst hR
      exact ret_p2
    · intro i s h; exact h.elim
    · rintro s ⟨res_10, rfl, hb⟩
      try dsimp only at hh
      obtain hR := Option.some.inj hh
      subst hR
      refine nmx ?_
      exact hb
theorem diptychlaw18_DiffSteps_ok (a_1 : api_Node) (b_2 : api_Node) (R : Bool) (hh : diptychlaw18_DiffSteps a_1 b_2 = some R) : PC Tryd.prog 4 [.agg [.str a_1.Kind, .str a_1.Text, .list 1 (a_1.Marks.map PV.str), .list 2 (a_1.Attrs.map api_Attr.pv), .list 5 (a_1.Kids.map api_Node.pv)], .agg [.str b_2.Kind, .str b_2.Text, .list 1 (b_2.Marks.map PV.str), .list 2 (b_2.Attrs.map api_Attr.pv), .list 5 (b_2.Kids.map api_Node.pv)]] (.bool R) := by
  rw [diptychlaw18_DiffSteps] at hh
  refine start_diptychlaw18_DiffSteps rfl ?_
  refine awp_first fun K kk hK => ?_
  simp only [go_sem]
  refine hK _ _ fun nx => ?_; clear hK K; try clear kk
  obtain ⟨shown_3, h1, hh⟩ := bind_ex hh
  refine awp_first fun K kk hK => ?_
  simp only [go_sem]
  refine step_call2 (diptychlaw18_shown_ok _ h1) (by (try simp only [go_sem]) <;> exact wkl) (by rfl) (by rfl) ?_
  simp only [go_sem]
  refine hK _ _ fun nx => ?_; clear hK K; try clear kk
  refine awp_seq ?_
  by_cases h2 : (!shown_3) = true
  · rw [if_pos h2] at hh
    refine awp_first fun K kk hK => ?_
    simp only [go_sem, h2, h2]
    (repeat refine sd ?_)
    refine hK _ _ fun nx => ?_; clear hK K; try clear kk
    refine awp_true rfl ?_
    refine awp_first fun K kk hK => ?_
    simp only [go_sem]
    refine hK _ _ fun nx => ?_; clear hK K; try clear kk
    refine awp_ret ?_; refine nmx ?_
    obtain hR := Option.some.inj hh
    subst hR
    exact ret_p2
  · rw [if_neg h2] at hh
    replace h2 := Bool.eq_false_iff.mpr h2
    obtain ⟨light_4, h3, hh⟩ := bind_ex hh
    by_cases h4 : (decide (light_4 < (0 : Int))) = true
    · rw [if_pos h4] at hh
      refine awp_first fun K kk hK => ?_
      simp only [go_sem, h2, h2, h4, of_decide_eq_true h4, h4, of_decide_eq_true h4]
      (repeat refine sd ?_)
      refine step_call2 (diptychlaw18_light_ok _ _ _ h3) (by (try simp only [go_sem, h2, h2, h4, of_decide_eq_true h4, h4, of_decide_eq_true h4]) <;> exact wkl) (by rfl) (by rfl) ?_
      simp only [go_sem, h2, h2, h4, of_decide_eq_true h4, h4, of_decide_eq_true h4]
      (repeat refine sd ?_)
      refine hK _ _ fun nx => ?_; clear hK K; try clear kk
      refine awp_true rfl ?_
      refine awp_first fun K kk hK => ?_
      simp only [go_sem]
      refine hK _ _ fun nx => ?_; clear hK K; try clear kk
      refine awp_ret ?_; refine nmx ?_
      obtain hR := Option.some.inj hh
      subst hR
      exact ret_p2
    · rw [if_neg h4] at hh
      replace h4 := Bool.eq_false_iff.mpr h4
      obtain ⟨light_5, h5, hh⟩ := bind_ex hh
      refine awp_first fun K kk hK => ?_
      simp only [go_sem, h2, h2, h4, of_decide_eq_false h4, h4, of_decide_eq_false h4]
      (repeat refine sd ?_)
      refine step_call2 (diptychlaw18_light_ok _ _ _ h3) (by (try simp only [go_sem, h2, h2, h4, of_decide_eq_false h4, h4, of_decide_eq_false h4]) <;> exact wkl) (by rfl) (by rfl) ?_
      simp only [go_sem, h2, h2, h4, of_decide_eq_false h4, h4, of_decide_eq_false h4]
      (repeat refine sd ?_)
      refine step_call2 (diptychlaw18_light_ok _ _ _ h5) (by (try simp only [go_sem, h2, h2, h4, of_decide_eq_false h4, h4, of_decide_eq_false h4]) <;> exact wkl) (by rfl) (by rfl) ?_
      simp only [go_sem, h2, h2, h4, of_decide_eq_false h4, h4, of_decide_eq_false h4]
      (repeat refine sd ?_)
      refine hK _ _ fun nx => ?_; clear hK K; try clear kk
      by_cases h6 : (decide (light_5 < (0 : Int))) = true
      · rw [if_pos h6] at hh
        refine awp_true (by first | exact congrArg PV.bool h6 | rfl) ?_
        refine awp_first fun K kk hK => ?_
        simp only [go_sem]
        refine hK _ _ fun nx => ?_; clear hK K; try clear kk
        refine awp_ret ?_; refine nmx ?_
        obtain hR := Option.some.inj hh
        subst hR
        exact ret_p2
      · rw [if_neg h6] at hh
        replace h6 := Bool.eq_false_iff.mpr h6
        refine awp_false (by first | exact congrArg PV.bool h6 | rfl) ?_
        refine awp_skip ?_; refine nmx ?_
        obtain ⟨⟨r_6, r_7⟩, h7, hh⟩ := bind_ex hh
        dsimp only at hh
        refine awp_first fun K kk hK => ?_
        simp only [go_sem]
        refine step_call2 (diff_Steps_ok _ _ _ h7) (by (try simp only [go_sem]) <;> exact wkl) (by rfl) (by rfl) ?_
        simp only [go_sem]
        refine hK _ _ fun nx => ?_; clear hK K; try clear kk
        obtain ⟨⟨r_8, r_9⟩, h8, hh⟩ := bind_ex hh
        dsimp only at hh
        refine awp_first fun K kk hK => ?_
        simp only [go_sem]
        refine step_call2 (diptychref18_Steps_ok _ _ _ h8) (by (try simp only [go_sem]) <;> exact wkl) (by rfl) (by rfl) ?_
        simp only [go_sem]
        refine hK _ _ fun nx => ?_; clear hK K; try clear kk
        refine awp_seq ?_
        obtain ⟨samest_10, h9, hh⟩ := bind_ex hh
        by_cases h10 : (!samest_10) = true
        · rw [if_pos h10] at hh
          refine awp_first fun K kk hK => ?_
          simp only [go_sem, h10, h10]
          (repeat refine sd ?_)
          refine step_call2 (diptychlaw18_sameSteps_ok _ _ _ h9) (by (try simp only [go_sem, h10, h10]) <;> exact wkl) (by rfl) (by rfl) ?_
          simp only [go_sem, h10, h10]
          (repeat refine sd ?_)
          refine hK _ _ fun nx => ?_; clear hK K; try clear kk
          refine awp_true rfl ?_
          refine awp_first fun K kk hK => ?_
          simp only [go_sem]
          refine hK _ _ fun nx => ?_; clear hK K; try clear kk
          refine awp_ret ?_; refine nmx ?_
          obtain hR := Option.some.inj hh
          subst hR
          exact ret_p2
        · rw [if_neg h10] at hh
          replace h10 := Bool.eq_false_iff.mpr h10
          refine awp_first fun K kk hK => ?_
          simp only [go_sem, h10, h10]
          (repeat refine sd ?_)
          refine step_call2 (diptychlaw18_sameSteps_ok _ _ _ h9) (by (try simp only [go_sem, h10, h10]) <;> exact wkl) (by rfl) (by rfl) ?_
          simp only [go_sem, h10, h10]
          (repeat refine sd ?_)
          refine hK _ _ fun nx => ?_; clear hK K; try clear kk
          by_cases h11 : (r_7 != r_9) = true
          · rw [if_pos h11] at hh
            refine awp_true (by first | exact congrArg PV.bool h11 | rfl) ?_
            refine awp_first fun K kk hK => ?_
            simp only [go_sem]
            refine hK _ _ fun nx => ?_; clear hK K; try clear kk
            refine awp_ret ?_; refine nmx ?_
            obtain hR := Option.some.inj hh
            subst hR
            exact ret_p2
          · rw [if_neg h11] at hh
            replace h11 := Bool.eq_false_iff.mpr h11
            refine awp_false (by first | exact congrArg PV.bool h11 | rfl) ?_
            refine awp_skip ?_; refine nmx ?_
            refine awp_seq ?_
            refine awp_first fun K kk hK => ?_
            simp only [go_sem]
            refine hK _ _ fun nx => ?_; clear hK K; try clear kk
            by_cases h12 : (r_7 != (0 : Int)) = true
            · rw [if_pos h12] at hh
              refine awp_true (by first | exact congrArg PV.bool h12 | rfl) ?_
              refine awp_first fun K kk hK => ?_
              simp only [go_sem]
              refine hK _ _ fun nx => ?_; clear hK K; try clear kk
              refine awp_ret ?_; refine nmx ?_
              obtain hR := Option.some.inj hh
              subst hR
              exact ret_p2
            · rw [if_neg h12] at hh
              replace h12 := Bool.eq_false_iff.mpr h12
              refine awp_false (by first | exact congrArg PV.bool h12 | rfl) ?_
              refine awp_skip ?_; refine nmx ?_
              obtain ⟨⟨r_11, r_12, r_13, r_14⟩, h13, hh⟩ := bind_ex hh
              dsimp only at hh
              refine awp_first fun K kk hK => ?_
              simp only [go_sem]
              refine step_call2 (diff_Where_ok _ _ _ h13) (by (try simp only [go_sem]) <;> exact wkl) (by rfl) (by rfl) ?_
              simp only [go_sem]
              refine hK _ _ fun nx => ?_; clear hK K; try clear kk
              obtain ⟨⟨r_15, r_16, r_17, r_18⟩, h14, hh⟩ := bind_ex hh
              dsimp only at hh
              refine awp_first fun K kk hK => ?_
              simp only [go_sem]
              refine step_call2 (diptychref18_Where_ok _ _ _ h14) (by (try simp only [go_sem]) <;> exact wkl) (by rfl) (by rfl) ?_
              simp only [go_sem]
              refine hK _ _ fun nx => ?_; clear hK K; try clear kk
              obtain ⟨same_19, h15, hh⟩ := bind_ex hh
              by_cases h16 : (same_19) = true
              · rw [if_pos h16] at hh
                by_cases h17 : (r_12 == r_16) = true
                · rw [if_pos h17] at hh
                  by_cases h18 : (r_13 == r_17) = true
                  · rw [if_pos h18] at hh
                    refine awp_first fun K kk hK => ?_
                    simp only [go_sem, h16, h16, h17, h17, h18, h18]
                    (repeat refine sd ?_)
                    refine step_call2 (diptychlaw18_same_ok _ _ _ h15) (by (try simp only [go_sem, h16, h16, h17, h17, h18, h18]) <;> exact wkl) (by rfl) (by rfl) ?_
                    simp only [go_sem, h16, h16, h17, h17, h18, h18]
                    (repeat refine sd ?_)
                    refine hK _ _ fun nx => ?_; clear hK K; try clear kk
                    refine awp_ret ?_; refine nmx ?_
                    obtain hR := Option.some.inj hh
                    subst hR
                    exact ret_p2
                  · rw [if_neg h18] at hh
                    replace h18 := Bool.eq_false_iff.mpr h18
                    refine awp_first fun K kk hK => ?_
                    simp only [go_sem, h16, h16, h17, h17, h18, h18]
                    (repeat refine sd ?_)
                    refine step_call2 (diptychlaw18_same_ok _ _ _ h15) (by (try simp only [go_sem, h16, h16, h17, h17, h18, h18]) <;> exact wkl) (by rfl) (by rfl) ?_
                    simp only [go_sem, h16, h16, h17, h17, h18, h18]
                    (repeat refine sd ?_)
                    refine hK _ _ fun nx => ?_; clear hK K; try clear kk
                    refine awp_ret ?_; refine nmx ?_
                    obtain hR := Option.some.inj hh
                    subst hR
                    exact ret_p2
                · rw [if_neg h17] at hh
                  replace h17 := Bool.eq_false_iff.mpr h17
                  refine awp_first fun K kk hK => ?_
                  simp only [go_sem, h16, h16, h17, h17]
                  (repeat refine sd ?_)
                  refine step_call2 (diptychlaw18_same_ok _ _ _ h15) (by (try simp only [go_sem, h16, h16, h17, h17]) <;> exact wkl) (by rfl) (by rfl) ?_
                  simp only [go_sem, h16, h16, h17, h17]
                  (repeat refine sd ?_)
                  refine hK _ _ fun nx => ?_; clear hK K; try clear kk
                  refine awp_ret ?_; refine nmx ?_
                  obtain hR := Option.some.inj hh
                  subst hR
                  exact ret_p2
              · rw [if_neg h16] at hh
                replace h16 := Bool.eq_false_iff.mpr h16
                refine awp_first fun K kk hK => ?_
                simp only [go_sem, h16, h16]
                (repeat refine sd ?_)
                refine step_call2 (diptychlaw18_same_ok _ _ _ h15) (by (try simp only [go_sem, h16, h16]) <;> exact wkl) (by rfl) (by rfl) ?_
                simp only [go_sem, h16, h16]
                (repeat refine sd ?_)
                refine hK _ _ fun nx => ?_; clear hK K; try clear kk
                refine awp_ret ?_; refine nmx ?_
                obtain hR := Option.some.inj hh
                subst hR
                exact ret_p2
theorem diff_change_set_x_ok (Kind_1 : Str) (Text_2 : Str) (Marks_3 : (List Str)) (Attrs_4 : (List api_Attr)) (Kids_5 : (List api_Node)) (Kind_6 : Str) (Text_7 : Str) (Marks_8 : (List Str)) (Attrs_9 : (List api_Attr)) (Kids_10 : (List api_Node)) (path_11 : (List Int)) (at__12 : Int) (head_13 : Int) (m_14 : Int) (n_15 : Int) (l_16 : (List step_Step)) (R : (Str × Str × (List Str) × (List api_Attr) × (List api_Node) × Str × Str × (List Str) × (List api_Attr) × (List api_Node) × (List Int) × Int × Int × Int × Int × (List step_Step))) (hh : diff_change_set_x Kind_1 Text_2 Marks_3 Attrs_4 Kids_5 Kind_6 Text_7 Marks_8 Attrs_9 Kids_10 path_11 at__12 head_13 m_14 n_15 l_16 = some R) : BC Tryd.prog 89 [.box 1000 0 0] [.var 102 [.str Kind_1, .str Text_2, .list 1 (Marks_3.map PV.str), .list 2 (Attrs_4.map api_Attr.pv), .list 5 (Kids_5.map api_Node.pv), .str Kind_6, .str Text_7, .list 1 (Marks_8.map PV.str), .list 2 (Attrs_9.map api_Attr.pv), .list 5 (Kids_10.map api_Node.pv), .list 1 (path_11.map (PV.int .i64)), .int .i64 at__12, .int .i64 head_13, .int .i64 m_14, .int .i64 n_15, .row 1001 0 l_16.length], .row false 6 (l_16.map step_Step.pv)] (.tup []) [.var 102 [.str R.1, .str R.2.1, .list 1 (R.2.2.1.map PV.str), .list 2 (R.2.2.2.1.map api_Attr.pv), .list 5 (R.2.2.2.2.1.map api_Node.pv), .str R.2.2.2.2.2.1, .str R.2.2.2.2.2.2.1, .list 1 (R.2.2.2.2.2.2.2.1.map PV.str), .list 2 (R.2.2.2.2.2.2.2.2.1.map api_Attr.pv), .list 5 (R.2.2.2.2.2.2.2.2.2.1.map api_Node.pv), .list 1 (R.2.2.2.2.2.2.2.2.2.2.1.map (PV.int .i64)), .int .i64 R.2.2.2.2.2.2.2.2.2.2.2.1, .int .i64 R.2.2.2.2.2.2.2.2.2.2.2.2.1, .int .i64 R.2.2.2.2.2.2.2.2.2.2.2.2.2.1, .int .i64 R.2.2.2.2.2.2.2.2.2.2.2.2.2.2.1, .row 1001 0 R.2.2.2.2.2.2.2.2.2.2.2.2.2.2.2.length], .moved 6 (R.2.2.2.2.2.2.2.2.2.2.2.2.2.2.2.map step_Step.pv)] := by
  rw [diff_change_set_x] at hh
  refine start_diff_change_set_x rfl rfl rfl ?_
  refine awp_first fun K kk hK => ?_
  simp only [go_sem]
  refine hK _ _ fun nx => ?_; clear hK K; try clear kk
  obtain ⟨e0, f0, hh⟩ := bind_ex hh
  obtain ⟨hlen0, f0⟩ := chk_some f0
  refine awp_fragE (CutTo (fun s => ∃ v_30, v_30 = e0 ∧ ∃ (v_28 : Int) (v_29 : Bool) (nx : Nat) (g1001 : Nat), s = ⟨[(0, .box 1000 0 0), (8, .list 2 (Attrs_4.map api_Attr.pv)), (9, .int .i64 (Attrs_4.length : Int)), (10, .int .i64 v_28), (11, .bool v_29)], [(1000, 0, .var 102 [.str Kind_1, .str Text_2, .list 1 (Marks_3.map PV.str), .list 2 (Attrs_4.map api_Attr.pv), .list 5 (Kids_5.map api_Node.pv), .str Kind_6, .str Text_7, .list 1 (Marks_8.map PV.str), .list 2 (Attrs_9.map api_Attr.pv), .list 5 (Kids_10.map api_Node.pv), .list 1 (path_11.map (PV.int .i64)), .int .i64 at__12, .int .i64 head_13, .int .i64 m_14, .int .i64 n_15, .row 1001 g1001 v_30.length]), (1001, g1001, .row false 6 (v_30.map step_Step.pv))], nx⟩))
    (fun i s => False)
    (fun s => False) ?_ ?_ ?_ ?_
  · refine awp_block ?_
    refine awp_loopJ fun I hI => ?_
    have key : ∀ (suf pre : List api_Attr) (v_20 : Int) (v_21 : (List step_Step)), Attrs_4 = pre ++ suf → v_20 = (pre.length : Int) → diff_change_set_x_l0 Attrs_9 at__12 suf v_20 v_21 = some e0 → ∀ (nx : Nat) (g1001 : Nat), I ⟨[(0, .box 1000 0 0), (8, .list 2 (Attrs_4.map api_Attr.pv)), (9, .int .i64 (Attrs_4.length : Int)), (10, .int .i64 v_20)], [(1000, 0, .var 102 [.str Kind_1, .str Text_2, .list 1 (Marks_3.map PV.str), .list 2 (Attrs_4.map api_Attr.pv), .list 5 (Kids_5.map api_Node.pv), .str Kind_6, .str Text_7, .list 1 (Marks_8.map PV.str), .list 2 (Attrs_9.map api_Attr.pv), .list 5 (Kids_10.map api_Node.pv), .list 1 (path_11.map (PV.int .i64)), .int .i64 at__12, .int .i64 head_13, .int .i64 m_14, .int .i64 n_15, .row 1001 g1001 v_21.length]), (1001, g1001, .row false 6 (v_21.map step_Step.pv))], nx⟩ := by
      intro suf
      induction suf with
      | nil =>
        intro pre v_20 v_21 hsplit hidx hh nx g1001
        rw [diff_change_set_x_l0] at hh
        refine hI _ ?_
        have h13 := walk_nil hsplit hidx
        refine awp_first fun K kk hK => ?_
        simp only [go_sem]
        refine hK _ _ fun nx => ?_; clear hK K; try clear kk
        refine awp_seq ?_
        refine awp_false (by first | exact congrArg PV.bool h13 | rfl) ?_
        refine awp_exit ?_; refine nmx ?_
        refine fragN ?_
        refine cut_id ?_
        refine ⟨_, (Option.some.inj hh), ?_⟩
        first | exact ⟨_, _, _, _, rfl⟩ | (simp only [api_Attr.pv_eq, api_Node.pv_eq, step_Step.pv_eq, diff_change.pv_eq, diptychref11_Step.pv_eq, pvL, List.map_cons, List.map_nil, List.map_append, rune1]; exact ⟨_, _, _, _, rfl⟩) | (simp only [api_Attr.pv_eq, api_Node.pv_eq, step_Step.pv_eq, diff_change.pv_eq, diptychref11_Step.pv_eq, pvL, List.map_cons, List.map_nil, List.map_append, rune1, h13]; exact ⟨_, _, _, _, rfl⟩)
      | cons y_25 suf ih =>
        intro pre v_20 v_21 hsplit hidx hh nx g1001
        rw [diff_change_set_x_l0] at hh
        refine hI _ ?_
        obtain ⟨hl0a, hl0b, hl0d, hl0w, h13⟩ := walk_cons (f := api_Attr.pv) hsplit hidx hlen0
        refine awp_first fun K kk hK => ?_
        simp only [go_sem]
        refine hK _ _ fun nx => ?_; clear hK K; try clear kk
        refine awp_seq ?_
        refine awp_true (by first | exact congrArg PV.bool h13 | rfl) ?_
        refine awp_skip ?_; refine nmx ?_
        refine awp_seq ?_
        refine awp_block ?_
        refine awp_first fun K kk hK => ?_
        simp only [go_sem, hl0a, hl0b, hl0d, hl0w]
        refine hK _ _ fun nx => ?_; clear hK K; try clear kk
        by_cases h14 : (decide (v_20 < (Attrs_9.length : Int))) = true
        · rw [if_pos h14] at hh
          obtain ⟨x_26, h15, hh⟩ := bind_ex hh
          obtain ⟨h15a, h15b, h15c⟩ := rd_some h15
          have h15d := rd_get (f := api_Attr.pv) h15c
          have h15f := rd_more (f := api_Attr.pv) h15c
          try simp only [Int.toNat_natCast, Int.reduceToNat] at h15d h15f
          refine awp_first fun K kk hK => ?_
          simp only [go_sem, h14, of_decide_eq_true h14, h15a, h15b, h15d, h15f.1, h15f.2, h14, of_decide_eq_true h14, hl0a, hl0b, hl0d, hl0w]
          (repeat refine sd ?_)
          refine hK _ _ fun nx => ?_; clear hK K; try clear kk
          by_cases h16 : (!(x_26.Value == y_25.Value)) = true
          · rw [if_pos h16] at hh
            refine awp_true (by first | exact congrArg PV.bool h16 | rfl) ?_
            obtain ⟨l_27, h17, hh⟩ := bind_ex hh
            obtain ⟨h17a, h17c⟩ := app_some h17
            have h17d := app_map (f := step_Step.pv) h17c
            have h17e := app_len h17c
            try simp only [List.length_cons, List.length_nil, Nat.zero_add, Nat.reduceAdd] at h17a h17e
            try simp only [h17e] at h17a
            try simp only [List.map_cons, List.map_nil, List.nil_append, List.append_nil, List.cons_append, List.singleton_append, rune1, api_Attr.pv_eq, api_Node.pv_eq, step_Step.pv_eq, diff_change.pv_eq, diptychref11_Step.pv_eq, pvL] at h17d
            refine awp_region fun K kk hK => ?_
            simp only [go_sem, h15a, h15b, h15d, h15f.1, h15f.2, h17a, h17d, h17e, hl0a, hl0b, hl0d, hl0w]
            (repeat refine sd ?_)
            refine hK _ _ fun nx => ?_; clear hK K; try clear kk
            refine nmx ?_
            refine awp_region fun K kk hK => ?_
            simp only [go_sem, hl0a, hl0b, hl0d, hl0w]
            refine hK _ _ fun nx => ?_; clear hK K; try clear kk
            refine nmx ?_
            have ih' := ih (pre ++ [y_25]) (v_20 + 1) _ (by rw [hsplit]; simp) (by simp [hidx]) hh nx
            refine cut_id ?_
            first | exact ih' _ | (simp only [api_Attr.pv_eq, api_Node.pv_eq, step_Step.pv_eq, diff_change.pv_eq, diptychref11_Step.pv_eq, pvL, List.map_cons, List.map_nil, List.map_append, rune1, h17e] at ih' ⊢; exact ih' _) | (simp only [api_Attr.pv_eq, api_Node.pv_eq, step_Step.pv_eq, diff_change.pv_eq, diptychref11_Step.pv_eq, pvL, List.map_cons, List.map_nil, List.map_append, rune1, h17e, h13, h14, h16] at ih' ⊢; exact ih' _)
          · rw [if_neg h16] at hh
            replace h16 := Bool.eq_false_iff.mpr h16
            refine awp_false (by first | exact congrArg PV.bool h16 | rfl) ?_
            refine awp_skip ?_; refine nmx ?_
            refine awp_region fun K kk hK => ?_
            simp only [go_sem, hl0a, hl0b, hl0d, hl0w]
            refine hK _ _ fun nx => ?_; clear hK K; try clear kk
            refine nmx ?_
            have ih' := ih (pre ++ [y_25]) (v_20 + 1) _ (by rw [hsplit]; simp) (by simp [hidx]) hh nx
            refine cut_id ?_
            first | exact ih' _ | (simp only [api_Attr.pv_eq, api_Node.pv_eq, step_Step.pv_eq, diff_change.pv_eq, diptychref11_Step.pv_eq, pvL, List.map_cons, List.map_nil, List.map_append, rune1] at ih' ⊢; exact ih' _) | (simp only [api_Attr.pv_eq, api_Node.pv_eq, step_Step.pv_eq, diff_change.pv_eq, diptychref11_Step.pv_eq, pvL, List.map_cons, List.map_nil, List.map_append, rune1, h13, h14, h16] at ih' ⊢; exact ih' _)
        · rw [if_neg h14] at hh
          replace h14 := Bool.eq_false_iff.mpr h14
          refine awp_first fun K kk hK => ?_
          simp only [go_sem, h14, of_decide_eq_false h14, h14, of_decide_eq_false h14, hl0a, hl0b, hl0d, hl0w]
          (repeat refine sd ?_)
          refine hK _ _ fun nx => ?_; clear hK K; try clear kk
          refine awp_false rfl ?_
          refine awp_skip ?_; refine nmx ?_
          refine awp_region fun K kk hK => ?_
          simp only [go_sem, hl0a, hl0b, hl0d, hl0w]
          refine hK _ _ fun nx => ?_; clear hK K; try clear kk
          refine nmx ?_
          have ih' := ih (pre ++ [y_25]) (v_20 + 1) _ (by rw [hsplit]; simp) (by simp [hidx]) hh nx
          refine cut_id ?_
          first | exact ih' _ | (simp only [api_Attr.pv_eq, api_Node.pv_eq, step_Step.pv_eq, diff_change.pv_eq, diptychref11_Step.pv_eq, pvL, List.map_cons, List.map_nil, List.map_append, rune1] at ih' ⊢; exact ih' _) | (simp only [api_Attr.pv_eq, api_Node.pv_eq, step_Step.pv_eq, diff_change.pv_eq, diptychref11_Step.pv_eq, pvL, List.map_cons, List.map_nil, List.map_append, rune1, h13, h14] at ih' ⊢; exact ih' _)
    exact key Attrs_4 [] _ _ rfl rfl f0 _ _
  · rintro s ⟨t, hless, v_30, rfl, v_28, v_29, nx, g1001, rfl⟩
    try dsimp only at hh
    refine nmy ?_
    first | (refine cut_less hless ?_; try refine cut_awp ?_) | refine frag_less hless ?_ | refine body_less hless ?_
    obtain hR := Option.some.inj hh
    subst hR
    refine body_end ?_
    refine ret_pureB ?_ (by rfl) ?_
    · simp only [go_sem, rvsRes, rvRes, cellRes, tupOf, pur2, List.map_cons, List.map_append, List.head?_cons]
      all_goals exact wkw
    · (try simp only [go_sem]); (try simp only [List.length_append, List.map_append]); all_goals exact wkb
  · intro i s h; exact h.elim
  · intro s h; exact h.elim

end Go.Proofs.YtblielhogcnnkaaDoor
