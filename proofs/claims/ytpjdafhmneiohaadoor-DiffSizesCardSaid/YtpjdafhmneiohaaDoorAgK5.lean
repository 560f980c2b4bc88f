/- What the functions answer, the program answers (5). -/
import Derived.Test.YtpjdafhmneiohaaDoorAgC
import Derived.Test.YtpjdafhmneiohaaDoorAgF
import Derived.Test.YtpjdafhmneiohaaDoorAgK0
import Derived.Test.YtpjdafhmneiohaaDoorAgK3
import Derived.Test.YtpjdafhmneiohaaDoorAgK4
namespace Go.Proofs.YtpjdafhmneiohaaDoor
set_option linter.unusedSimpArgs false
set_option linter.unusedVariables false
open Go
set_option maxRecDepth 100000

theorem diptychlaw18_DiffSizes_ok (l_1 : (List diptychlaw18_Cell)) (m_2 : (List diptychlaw18_Cell)) (R : Bool) (hh : diptychlaw18_DiffSizes l_1 m_2 = some R) : PC Tryd.prog 4 [.list 4 (l_1.map diptychlaw18_Cell.pv), .list 4 (m_2.map diptychlaw18_Cell.pv)] (.bool R) := by
  rw [diptychlaw18_DiffSizes] at hh
  refine start_diptychlaw18_DiffSizes rfl ?_
  refine awp_first fun K kk hK => ?_
  simp only [go_sem]
  refine hK _ _ fun nx => ?_; clear hK K; try clear kk
  obtain ⟨shown_3, h1, hh⟩ := bind_ex hh
  refine awp_first fun K kk hK => ?_
  simp only [go_sem]
  refine step_call2 (diptychlaw18_shown_ok _ h1) (by (try simp only [go_sem]) <;> exact wkl) (by rfl) (by rfl) ?_
  simp only [go_sem]
  refine hK _ _ fun nx => ?_; clear hK K; try clear kk
  refine awp_seq ?_
  refine awp_first fun K kk hK => ?_
  simp only [go_sem]
  refine hK _ _ fun nx => ?_; clear hK K; try clear kk
  by_cases h2 : (!shown_3) = true
  · rw [if_pos h2] at hh
    refine awp_true (by first | exact congrArg PV.bool h2 | rfl) ?_
    refine awp_first fun K kk hK => ?_
    simp only [go_sem]
    refine hK _ _ fun nx => ?_; clear hK K; try clear kk
    refine awp_ret ?_; refine nmx ?_
    obtain hR := Option.some.inj hh
    subst hR
    exact ret_p2
  · rw [if_neg h2] at hh
    replace h2 := Bool.eq_false_iff.mpr h2
    refine awp_false (by first | exact congrArg PV.bool h2 | rfl) ?_
    refine awp_skip ?_; refine nmx ?_
    obtain ⟨doc_4, h3, hh⟩ := bind_ex hh
    refine awp_first fun K kk hK => ?_
    simp only [go_sem]
    refine step_call2 (diptychlaw18_doc_ok _ _ h3) (by (try simp only [go_sem]) <;> exact wkl) (by rfl) (by rfl) ?_
    simp only [go_sem]
    refine hK _ _ fun nx => ?_; clear hK K; try clear kk
    obtain ⟨doc_5, h4, hh⟩ := bind_ex hh
    refine awp_first fun K kk hK => ?_
    simp only [go_sem]
    refine step_call2 (diptychlaw18_doc_ok _ _ h4) (by (try simp only [go_sem]) <;> exact wkl) (by rfl) (by rfl) ?_
    simp only [go_sem]
    refine hK _ _ fun nx => ?_; clear hK K; try clear kk
    obtain ⟨⟨r_6, r_7⟩, h5, hh⟩ := bind_ex hh
    dsimp only at hh
    refine awp_first fun K kk hK => ?_
    simp only [go_sem]
    refine step_call2 (diff_Steps_ok _ _ _ h5) (by (try simp only [go_sem]) <;> exact wkl) (by rfl) (by rfl) ?_
    simp only [go_sem]
    refine hK _ _ fun nx => ?_; clear hK K; try clear kk
    obtain ⟨⟨r_8, r_9⟩, h6, hh⟩ := bind_ex hh
    dsimp only at hh
    refine awp_first fun K kk hK => ?_
    simp only [go_sem]
    refine step_call2 (diff_Steps_ok _ _ _ h6) (by (try simp only [go_sem]) <;> exact wkl) (by rfl) (by rfl) ?_
    simp only [go_sem]
    refine hK _ _ fun nx => ?_; clear hK K; try clear kk
    refine awp_first fun K kk hK => ?_
    simp only [go_sem]
    refine hK _ _ fun nx => ?_; clear hK K; try clear kk
    refine awp_first fun K kk hK => ?_
    simp only [go_sem]
    refine hK _ _ fun nx => ?_; clear hK K; try clear kk
    refine awp_first fun K kk hK => ?_
    simp only [go_sem]
    refine hK _ _ fun nx => ?_; clear hK K; try clear kk
    refine awp_seq ?_
    refine awp_first fun K kk hK => ?_
    simp only [go_sem]
    refine hK _ _ fun nx => ?_; clear hK K; try clear kk
    obtain ⟨e0, f0, hh⟩ := bind_ex hh
    obtain ⟨hlen0, f0⟩ := chk_some f0
    refine awp_fragE (CutTo (fun s => ∃ grows_22, ∃ one_23, (grows_22, one_23) = e0 ∧ ∃ (i_24 : Int) (v_25 : Bool) (nx : Nat) (g6 : Nat) (g7 : Nat), s = ⟨[(6, .box 6 g6 0), (7, .box 7 g7 0), (8, .list 6 (r_6.map step_Step.pv)), (9, .int .i64 r_7), (10, .list 6 (r_8.map step_Step.pv)), (11, .int .i64 r_9), (12, .int .i64 grows_22), (13, .int .i64 one_23), (14, .int .i64 (0 : Int)), (15, .int .i64 i_24), (39, .bool v_25)], [(6, g6, .var 28 [.str doc_4.Kind, .str doc_4.Text, .list 1 (doc_4.Marks.map PV.str), .list 2 (doc_4.Attrs.map api_Attr.pv), .list 5 (doc_4.Kids.map api_Node.pv)]), (7, g7, .var 28 [.str doc_5.Kind, .str doc_5.Text, .list 1 (doc_5.Marks.map PV.str), .list 2 (doc_5.Attrs.map api_Attr.pv), .list 5 (doc_5.Kids.map api_Node.pv)])], nx⟩))
      (fun i s => False)
      (fun s => False) ?_ ?_ ?_ ?_
    · refine awp_block ?_
      refine awp_loopJ fun I hI => ?_
      have key : ∀ (suf pre : List step_Step) (i_15 : Int) (grows_13 : Int) (one_14 : Int), r_6 = pre ++ suf → i_15 = (pre.length : Int) → diptychlaw18_DiffSizes_l0 suf i_15 grows_13 one_14 = some e0 → ∀ (nx : Nat) (g6 : Nat) (g7 : Nat), I ⟨[(6, .box 6 g6 0), (7, .box 7 g7 0), (8, .list 6 (r_6.map step_Step.pv)), (9, .int .i64 r_7), (10, .list 6 (r_8.map step_Step.pv)), (11, .int .i64 r_9), (12, .int .i64 grows_13), (13, .int .i64 one_14), (14, .int .i64 (0 : Int)), (15, .int .i64 i_15)], [(6, g6, .var 28 [.str doc_4.Kind, .str doc_4.Text, .list 1 (doc_4.Marks.map PV.str), .list 2 (doc_4.Attrs.map api_Attr.pv), .list 5 (doc_4.Kids.map api_Node.pv)]), (7, g7, .var 28 [.str doc_5.Kind, .str doc_5.Text, .list 1 (doc_5.Marks.map PV.str), .list 2 (doc_5.Attrs.map api_Attr.pv), .list 5 (doc_5.Kids.map api_Node.pv)])], nx⟩ := by
        intro suf
        induction suf with
        | nil =>
          intro pre i_15 grows_13 one_14 hsplit hidx hh nx g6 g7
          rw [diptychlaw18_DiffSizes_l0] at hh
          refine hI _ ?_
          have h17 := walk_nil hsplit hidx
          refine awp_seq ?_
          refine awp_first fun K kk hK => ?_
          simp only [go_sem]
          refine hK _ _ fun nx => ?_; clear hK K; try clear kk
          refine awp_false (by first | exact congrArg PV.bool h17 | rfl) ?_
          refine awp_exit ?_; refine nmx ?_
          refine fragN ?_
          refine cut_id ?_
          refine ⟨_, _, (Option.some.inj hh), ?_⟩
          first | exact ⟨_, _, _, _, _, rfl⟩ | (simp only [diptychlaw18_Cell.pv_eq, api_Attr.pv_eq, api_Node.pv_eq, step_Step.pv_eq, diff_change.pv_eq, maps_Range.pv_eq, pvL, List.map_cons, List.map_nil, List.map_append, rune1]; exact ⟨_, _, _, _, _, rfl⟩) | (simp only [diptychlaw18_Cell.pv_eq, api_Attr.pv_eq, api_Node.pv_eq, step_Step.pv_eq, diff_change.pv_eq, maps_Range.pv_eq, pvL, List.map_cons, List.map_nil, List.map_append, rune1, h17, h2]; exact ⟨_, _, _, _, _, rfl⟩)
        | cons y_19 suf ih =>
          intro pre i_15 grows_13 one_14 hsplit hidx hh nx g6 g7
          rw [diptychlaw18_DiffSizes_l0] at hh
          refine hI _ ?_
          obtain ⟨hl0a, hl0b, hl0d, hl0w, h17⟩ := walk_cons (f := step_Step.pv) hsplit hidx hlen0
          refine awp_seq ?_
          refine awp_first fun K kk hK => ?_
          simp only [go_sem]
          refine hK _ _ fun nx => ?_; clear hK K; try clear kk
          refine awp_true (by first | exact congrArg PV.bool h17 | rfl) ?_
          refine awp_skip ?_; refine nmx ?_
          refine awp_seq ?_
          refine awp_block ?_
          obtain ⟨mapof_20, h18, hh⟩ := bind_ex hh
          obtain ⟨grows_21, h19, hh⟩ := bind_ex hh
          refine awp_first fun K kk hK => ?_
          simp only [go_sem, hl0a, hl0b, hl0d, hl0w]
          refine step_call2 (step_MapOf_ok _ _ h18) (by (try simp only [go_sem, hl0a, hl0b, hl0d, hl0w]) <;> exact wkl) (by rfl) (by rfl) ?_
          simp only [go_sem, hl0a, hl0b, hl0d, hl0w]
          refine step_call2 (maps_Grows_ok _ _ h19) (by (try simp only [go_sem, hl0a, hl0b, hl0d, hl0w]) <;> exact wkl) (by rfl) (by rfl) ?_
          simp only [go_sem, hl0a, hl0b, hl0d, hl0w]
          refine hK _ _ fun nx => ?_; clear hK K; try clear kk
          refine awp_first fun K kk hK => ?_
          simp only [go_sem, hl0a, hl0b, hl0d, hl0w]
          refine hK _ _ fun nx => ?_; clear hK K; try clear kk
          by_cases h20 : (y_19.Kind == (114 : Int)) = true
          · rw [if_pos h20] at hh
            refine awp_true (by first | exact congrArg PV.bool h20 | rfl) ?_
            refine awp_region fun K kk hK => ?_
            simp only [go_sem, hl0a, hl0b, hl0d, hl0w]
            refine hK _ _ fun nx => ?_; clear hK K; try clear kk
            refine nmx ?_
            refine awp_region fun K kk hK => ?_
            simp only [go_sem, hl0a, hl0b, hl0d, hl0w]
            refine hK _ _ fun nx => ?_; clear hK K; try clear kk
            refine nmx ?_
            have ih' := ih (pre ++ [y_19]) (i_15 + 1) _ _ (by rw [hsplit]; simp) (by simp [hidx]) hh nx
            refine cut_id ?_
            first | exact ih' _ _ | (simp only [diptychlaw18_Cell.pv_eq, api_Attr.pv_eq, api_Node.pv_eq, step_Step.pv_eq, diff_change.pv_eq, maps_Range.pv_eq, pvL, List.map_cons, List.map_nil, List.map_append, rune1] at ih' ⊢; exact ih' _ _) | (simp only [diptychlaw18_Cell.pv_eq, api_Attr.pv_eq, api_Node.pv_eq, step_Step.pv_eq, diff_change.pv_eq, maps_Range.pv_eq, pvL, List.map_cons, List.map_nil, List.map_append, rune1, h17, h2, h20] at ih' ⊢; exact ih' _ _)
          · rw [if_neg h20] at hh
            replace h20 := Bool.eq_false_iff.mpr h20
            refine awp_false (by first | exact congrArg PV.bool h20 | rfl) ?_
            refine awp_skip ?_; refine nmx ?_
            refine awp_region fun K kk hK => ?_
            simp only [go_sem, hl0a, hl0b, hl0d, hl0w]
            refine hK _ _ fun nx => ?_; clear hK K; try clear kk
            refine nmx ?_
            have ih' := ih (pre ++ [y_19]) (i_15 + 1) _ _ (by rw [hsplit]; simp) (by simp [hidx]) hh nx
            refine cut_id ?_
            first | exact ih' _ _ | (simp only [diptychlaw18_Cell.pv_eq, api_Attr.pv_eq, api_Node.pv_eq, step_Step.pv_eq, diff_change.pv_eq, maps_Range.pv_eq, pvL, List.map_cons, List.map_nil, List.map_append, rune1] at ih' ⊢; exact ih' _ _) | (simp only [diptychlaw18_Cell.pv_eq, api_Attr.pv_eq, api_Node.pv_eq, step_Step.pv_eq, diff_change.pv_eq, maps_Range.pv_eq, pvL, List.map_cons, List.map_nil, List.map_append, rune1, h17, h2, h20] at ih' ⊢; exact ih' _ _)
      exact key r_6 [] _ _ _ rfl rfl f0 _ _ _
    · rintro s ⟨t, hless, grows_22, one_23, rfl, i_24, v_25, nx, g6, g7, rfl⟩
      try dsimp only at hh
      refine nmy ?_
      first | (refine cut_less hless ?_; try refine cut_awp ?_) | refine frag_less hless ?_ | refine body_less hless ?_
      refine awp_seq ?_
      refine awp_first fun K kk hK => ?_
      simp only [go_sem]
      refine hK _ _ fun nx => ?_; clear hK K; try clear kk
      obtain ⟨e1, f1, hh⟩ := bind_ex hh
      obtain ⟨hlen1, f1⟩ := chk_some f1
      refine awp_fragE (CutTo (fun s => ∃ two_31, two_31 = e1 ∧ ∃ (i_32 : Int) (v_33 : Bool) (nx : Nat) (g6 : Nat) (g7 : Nat), s = ⟨[(6, .box 6 g6 0), (7, .box 7 g7 0), (8, .list 6 (r_6.map step_Step.pv)), (9, .int .i64 r_7), (10, .list 6 (r_8.map step_Step.pv)), (11, .int .i64 r_9), (12, .int .i64 grows_22), (13, .int .i64 one_23), (14, .int .i64 two_31), (16, .int .i64 i_32), (61, .bool v_33)], [(6, g6, .var 28 [.str doc_4.Kind, .str doc_4.Text, .list 1 (doc_4.Marks.map PV.str), .list 2 (doc_4.Attrs.map api_Attr.pv), .list 5 (doc_4.Kids.map api_Node.pv)]), (7, g7, .var 28 [.str doc_5.Kind, .str doc_5.Text, .list 1 (doc_5.Marks.map PV.str), .list 2 (doc_5.Attrs.map api_Attr.pv), .list 5 (doc_5.Kids.map api_Node.pv)])], nx⟩))
        (fun i s => False)
        (fun s => False) ?_ ?_ ?_ ?_
      · refine awp_block ?_
        refine awp_loopJ fun I hI => ?_
        have key : ∀ (suf pre : List step_Step) (i_28 : Int) (two_27 : Int), r_8 = pre ++ suf → i_28 = (pre.length : Int) → diptychlaw18_DiffSizes_l1 suf i_28 two_27 = some e1 → ∀ (nx : Nat) (g6 : Nat) (g7 : Nat), I ⟨[(6, .box 6 g6 0), (7, .box 7 g7 0), (8, .list 6 (r_6.map step_Step.pv)), (9, .int .i64 r_7), (10, .list 6 (r_8.map step_Step.pv)), (11, .int .i64 r_9), (12, .int .i64 grows_22), (13, .int .i64 one_23), (14, .int .i64 two_27), (16, .int .i64 i_28)], [(6, g6, .var 28 [.str doc_4.Kind, .str doc_4.Text, .list 1 (doc_4.Marks.map PV.str), .list 2 (doc_4.Attrs.map api_Attr.pv), .list 5 (doc_4.Kids.map api_Node.pv)]), (7, g7, .var 28 [.str doc_5.Kind, .str doc_5.Text, .list 1 (doc_5.Marks.map PV.str), .list 2 (doc_5.Attrs.map api_Attr.pv), .list 5 (doc_5.Kids.map api_Node.pv)])], nx⟩ := by
          intro suf
          induction suf with
          | nil =>
            intro pre i_28 two_27 hsplit hidx hh nx g6 g7
            rw [diptychlaw18_DiffSizes_l1] at hh
            refine hI _ ?_
            have h27 := walk_nil hsplit hidx
            refine awp_seq ?_
            refine awp_first fun K kk hK => ?_
            simp only [go_sem]
            refine hK _ _ fun nx => ?_; clear hK K; try clear kk
            refine awp_false (by first | exact congrArg PV.bool h27 | rfl) ?_
            refine awp_exit ?_; refine nmx ?_
            refine fragN ?_
            refine cut_id ?_
            refine ⟨_, (Option.some.inj hh), ?_⟩
            first | exact ⟨_, _, _, _, _, rfl⟩ | (simp only [diptychlaw18_Cell.pv_eq, api_Attr.pv_eq, api_Node.pv_eq, step_Step.pv_eq, diff_change.pv_eq, maps_Range.pv_eq, pvL, List.map_cons, List.map_nil, List.map_append, rune1]; exact ⟨_, _, _, _, _, rfl⟩) | (simp only [diptychlaw18_Cell.pv_eq, api_Attr.pv_eq, api_Node.pv_eq, step_Step.pv_eq, diff_change.pv_eq, maps_Range.pv_eq, pvL, List.map_cons, List.map_nil, List.map_append, rune1, h2, h27]; exact ⟨_, _, _, _, _, rfl⟩)
          | cons y_30 suf ih =>
            intro pre i_28 two_27 hsplit hidx hh nx g6 g7
            rw [diptychlaw18_DiffSizes_l1] at hh
            refine hI _ ?_
            obtain ⟨hl1a, hl1b, hl1d, hl1w, h27⟩ := walk_cons (f := step_Step.pv) hsplit hidx hlen1
            refine awp_seq ?_
            refine awp_first fun K kk hK => ?_
            simp only [go_sem]
            refine hK _ _ fun nx => ?_; clear hK K; try clear kk
            refine awp_true (by first | exact congrArg PV.bool h27 | rfl) ?_
            refine awp_skip ?_; refine nmx ?_
            refine awp_seq ?_
            refine awp_block ?_
            refine awp_first fun K kk hK => ?_
            simp only [go_sem, hl1a, hl1b, hl1d, hl1w]
            refine hK _ _ fun nx => ?_; clear hK K; try clear kk
            by_cases h28 : (y_30.Kind == (114 : Int)) = true
            · rw [if_pos h28] at hh
              refine awp_true (by first | exact congrArg PV.bool h28 | rfl) ?_
              refine awp_region fun K kk hK => ?_
              simp only [go_sem, hl1a, hl1b, hl1d, hl1w]
              refine hK _ _ fun nx => ?_; clear hK K; try clear kk
              refine nmx ?_
              refine awp_region fun K kk hK => ?_
              simp only [go_sem, hl1a, hl1b, hl1d, hl1w]
              refine hK _ _ fun nx => ?_; clear hK K; try clear kk
              refine nmx ?_
              have ih' := ih (pre ++ [y_30]) (i_28 + 1) _ (by rw [hsplit]; simp) (by simp [hidx]) hh nx
              refine cut_id ?_
              first | exact ih' _ _ | (simp only [diptychlaw18_Cell.pv_eq, api_Attr.pv_eq, api_Node.pv_eq, step_Step.pv_eq, diff_change.pv_eq, maps_Range.pv_eq, pvL, List.map_cons, List.map_nil, List.map_append, rune1] at ih' ⊢; exact ih' _ _) | (simp only [diptychlaw18_Cell.pv_eq, api_Attr.pv_eq, api_Node.pv_eq, step_Step.pv_eq, diff_change.pv_eq, maps_Range.pv_eq, pvL, List.map_cons, List.map_nil, List.map_append, rune1, h2, h27, h28] at ih' ⊢; exact ih' _ _)
            · rw [if_neg h28] at hh
              replace h28 := Bool.eq_false_iff.mpr h28
              refine awp_false (by first | exact congrArg PV.bool h28 | rfl) ?_
              refine awp_skip ?_; refine nmx ?_
              refine awp_region fun K kk hK => ?_
              simp only [go_sem, hl1a, hl1b, hl1d, hl1w]
              refine hK _ _ fun nx => ?_; clear hK K; try clear kk
              refine nmx ?_
              have ih' := ih (pre ++ [y_30]) (i_28 + 1) _ (by rw [hsplit]; simp) (by simp [hidx]) hh nx
              refine cut_id ?_
              first | exact ih' _ _ | (simp only [diptychlaw18_Cell.pv_eq, api_Attr.pv_eq, api_Node.pv_eq, step_Step.pv_eq, diff_change.pv_eq, maps_Range.pv_eq, pvL, List.map_cons, List.map_nil, List.map_append, rune1] at ih' ⊢; exact ih' _ _) | (simp only [diptychlaw18_Cell.pv_eq, api_Attr.pv_eq, api_Node.pv_eq, step_Step.pv_eq, diff_change.pv_eq, maps_Range.pv_eq, pvL, List.map_cons, List.map_nil, List.map_append, rune1, h2, h27, h28] at ih' ⊢; exact ih' _ _)
        exact key r_8 [] _ _ rfl rfl f1 _ _ _
      · rintro s ⟨t, hless, two_31, rfl, i_32, v_33, nx, g6, g7, rfl⟩
        try dsimp only at hh
        refine nmy ?_
        first | (refine cut_less hless ?_; try refine cut_awp ?_) | refine frag_less hless ?_ | refine body_less hless ?_
        by_cases h29 : (r_7 == (0 : Int)) = true
        · rw [if_pos h29] at hh
          by_cases h30 : (r_9 == (0 : Int)) = true
          · rw [if_pos h30] at hh
            by_cases h31 : ((r_6.length : Int) == (r_8.length : Int)) = true
            · rw [if_pos h31] at hh
              by_cases h32 : (one_23 == two_31) = true
              · rw [if_pos h32] at hh
                by_cases h33 : (decide (one_23 ≤ (1 : Int))) = true
                · rw [if_pos h33] at hh
                  obtain ⟨size_34, h34, hh⟩ := bind_ex hh
                  obtain ⟨size_35, h35, hh⟩ := bind_ex hh
                  refine awp_first fun K kk hK => ?_
                  simp only [go_sem, h29, h29, h30, h30, h31, h31, h32, h32, h33, of_decide_eq_true h33, h33, of_decide_eq_true h33]
                  (repeat refine sd ?_)
                  refine step_call2 (node_Size_ok _ _ h34) (by (try simp only [go_sem, h29, h29, h30, h30, h31, h31, h32, h32, h33, of_decide_eq_true h33, h33, of_decide_eq_true h33]) <;> exact wkl) (by rfl) (by rfl) ?_
                  simp only [go_sem, h29, h29, h30, h30, h31, h31, h32, h32, h33, of_decide_eq_true h33, h33, of_decide_eq_true h33]
                  (repeat refine sd ?_)
                  refine step_call2 (node_Size_ok _ _ h35) (by (try simp only [go_sem, h29, h29, h30, h30, h31, h31, h32, h32, h33, of_decide_eq_true h33, h33, of_decide_eq_true h33]) <;> exact wkl) (by rfl) (by rfl) ?_
                  simp only [go_sem, h29, h29, h30, h30, h31, h31, h32, h32, h33, of_decide_eq_true h33, h33, of_decide_eq_true h33]
                  (repeat refine sd ?_)
                  refine hK _ _ fun nx => ?_; clear hK K; try clear kk
                  refine awp_ret ?_; refine nmx ?_
                  obtain hR := Option.some.inj hh
                  subst hR
                  exact ret_p2
                · rw [if_neg h33] at hh
                  replace h33 := Bool.eq_false_iff.mpr h33
                  refine awp_first fun K kk hK => ?_
                  simp only [go_sem, h29, h29, h30, h30, h31, h31, h32, h32, h33, of_decide_eq_false h33, h33, of_decide_eq_false h33]
                  (repeat refine sd ?_)
                  refine hK _ _ fun nx => ?_; clear hK K; try clear kk
                  refine awp_ret ?_; refine nmx ?_
                  obtain hR := Option.some.inj hh
                  subst hR
                  exact ret_p2
              · rw [if_neg h32] at hh
                replace h32 := Bool.eq_false_iff.mpr h32
                refine awp_first fun K kk hK => ?_
                simp only [go_sem, h29, h29, h30, h30, h31, h31, h32, h32]
                (repeat refine sd ?_)
                refine hK _ _ fun nx => ?_; clear hK K; try clear kk
                refine awp_ret ?_; refine nmx ?_
                obtain hR := Option.some.inj hh
                subst hR
                exact ret_p2
            · rw [if_neg h31] at hh
              replace h31 := Bool.eq_false_iff.mpr h31
              refine awp_first fun K kk hK => ?_
              simp only [go_sem, h29, h29, h30, h30, h31, h31]
              (repeat refine sd ?_)
              refine hK _ _ fun nx => ?_; clear hK K; try clear kk
              refine awp_ret ?_; refine nmx ?_
              obtain hR := Option.some.inj hh
              subst hR
              exact ret_p2
          · rw [if_neg h30] at hh
            replace h30 := Bool.eq_false_iff.mpr h30
            refine awp_first fun K kk hK => ?_
            simp only [go_sem, h29, h29, h30, h30]
            (repeat refine sd ?_)
            refine hK _ _ fun nx => ?_; clear hK K; try clear kk
            refine awp_ret ?_; refine nmx ?_
            obtain hR := Option.some.inj hh
            subst hR
            exact ret_p2
        · rw [if_neg h29] at hh
          replace h29 := Bool.eq_false_iff.mpr h29
          refine awp_first fun K kk hK => ?_
          simp only [go_sem, h29, h29]
          (repeat refine sd ?_)
          refine hK _ _ fun nx => ?_; clear hK K; try clear kk
          refine awp_ret ?_; refine nmx ?_
          obtain hR := Option.some.inj hh
          subst hR
          exact ret_p2
      · intro i s h; exact h.elim
      · intro s h; exact h.elim
    · intro i s h; exact h.elim
    · intro s h; exact h.elim
theorem diff_change_set_x_ok (Kind_1 : Str) (Text_2 : Str) (Marks_3 : (List Str)) (Attrs_4 : (List api_Attr)) (Kids_5 : (List api_Node)) (Kind_6 : Str) (Text_7 : Str) (Marks_8 : (List Str)) (Attrs_9 : (List api_Attr)) (Kids_10 : (List api_Node)) (path_11 : (List Int)) (at__12 : Int) (head_13 : Int) (m_14 : Int) (n_15 : Int) (l_16 : (List step_Step)) (R : (Str × Str × (List Str) × (List api_Attr) × (List api_Node) × Str × Str × (List Str) × (List api_Attr) × (List api_Node) × (List Int) × Int × Int × Int × Int × (List step_Step))) (hh : diff_change_set_x Kind_1 Text_2 Marks_3 Attrs_4 Kids_5 Kind_6 Text_7 Marks_8 Attrs_9 Kids_10 path_11 at__12 head_13 m_14 n_15 l_16 = some R) : BC Tryd.prog 94 [.box 1000 0 0] [.var 116 [.str Kind_1, .str Text_2, .list 1 (Marks_3.map PV.str), .list 2 (Attrs_4.map api_Attr.pv), .list 5 (Kids_5.map api_Node.pv), .str Kind_6, .str Text_7, .list 1 (Marks_8.map PV.str), .list 2 (Attrs_9.map api_Attr.pv), .list 5 (Kids_10.map api_Node.pv), .list 1 (path_11.map (PV.int .i64)), .int .i64 at__12, .int .i64 head_13, .int .i64 m_14, .int .i64 n_15, .row 1001 0 l_16.length], .row false 6 (l_16.map step_Step.pv)] (.tup []) [.var 116 [.str R.1, .str R.2.1, .list 1 (R.2.2.1.map PV.str), .list 2 (R.2.2.2.1.map api_Attr.pv), .list 5 (R.2.2.2.2.1.map api_Node.pv), .str R.2.2.2.2.2.1, .str R.2.2.2.2.2.2.1, .list 1 (R.2.2.2.2.2.2.2.1.map PV.str), .list 2 (R.2.2.2.2.2.2.2.2.1.map api_Attr.pv), .list 5 (R.2.2.2.2.2.2.2.2.2.1.map api_Node.pv), .list 1 (R.2.2.2.2.2.2.2.2.2.2.1.map (PV.int .i64)), .int .i64 R.2.2.2.2.2.2.2.2.2.2.2.1, .int .i64 R.2.2.2.2.2.2.2.2.2.2.2.2.1, .int .i64 R.2.2.2.2.2.2.2.2.2.2.2.2.2.1, .int .i64 R.2.2.2.2.2.2.2.2.2.2.2.2.2.2.1, .row 1001 0 R.2.2.2.2.2.2.2.2.2.2.2.2.2.2.2.length], .moved 6 (R.2.2.2.2.2.2.2.2.2.2.2.2.2.2.2.map step_Step.pv)] := by
  rw [diff_change_set_x] at hh
  refine start_diff_change_set_x rfl rfl rfl ?_
  refine awp_first fun K kk hK => ?_
  simp only [go_sem]
  refine hK _ _ fun nx => ?_; clear hK K; try clear kk
  obtain ⟨e0, f0, hh⟩ := bind_ex hh
  obtain ⟨hlen0, f0⟩ := chk_some f0
  refine awp_fragE (CutTo (fun s => ∃ v_30, v_30 = e0 ∧ ∃ (v_28 : Int) (v_29 : Bool) (nx : Nat) (g1001 : Nat), s = ⟨[(0, .box 1000 0 0), (8, .list 2 (Attrs_4.map api_Attr.pv)), (9, .int .i64 (Attrs_4.length : Int)), (10, .int .i64 v_28), (11, .bool v_29)], [(1000, 0, .var 116 [.str Kind_1, .str Text_2, .list 1 (Marks_3.map PV.str), .list 2 (Attrs_4.map api_Attr.pv), .list 5 (Kids_5.map api_Node.pv), .str Kind_6, .str Text_7, .list 1 (Marks_8.map PV.str), .list 2 (Attrs_9.map api_Attr.pv), .list 5 (Kids_10.map api_Node.pv), .list 1 (path_11.map (PV.int .i64)), .int .i64 at__12, .int .i64 head_13, .int .i64 m_14, .int .i64 n_15, .row 1001 g1001 v_30.length]), (1001, g1001, .row false 6 (v_30.map step_Step.pv))], nx⟩))
    (fun i s => False)
    (fun s => False) ?_ ?_ ?_ ?_
  · refine awp_block ?_
    refine awp_loopJ fun I hI => ?_
    have key : ∀ (suf pre : List api_Attr) (v_20 : Int) (v_21 : (List step_Step)), Attrs_4 = pre ++ suf → v_20 = (pre.length : Int) → diff_change_set_x_l0 Attrs_9 at__12 suf v_20 v_21 = some e0 → ∀ (nx : Nat) (g1001 : Nat), I ⟨[(0, .box 1000 0 0), (8, .list 2 (Attrs_4.map api_Attr.pv)), (9, .int .i64 (Attrs_4.length : Int)), (10, .int .i64 v_20)], [(1000, 0, .var 116 [.str Kind_1, .str Text_2, .list 1 (Marks_3.map PV.str), .list 2 (Attrs_4.map api_Attr.pv), .list 5 (Kids_5.map api_Node.pv), .str Kind_6, .str Text_7, .list 1 (Marks_8.map PV.str), .list 2 (Attrs_9.map api_Attr.pv), .list 5 (Kids_10.map api_Node.pv), .list 1 (path_11.map (PV.int .i64)), .int .i64 at__12, .int .i64 head_13, .int .i64 m_14, .int .i64 n_15, .row 1001 g1001 v_21.length]), (1001, g1001, .row false 6 (v_21.map step_Step.pv))], nx⟩ := by
      intro suf
      induction suf with
      | nil =>
        intro pre v_20 v_21 hsplit hidx hh nx g1001
        rw [diff_change_set_x_l0] at hh
        refine hI _ ?_
        have h13 := walk_nil hsplit hidx
        refine awp_first fun K kk hK => ?_
        simp only [go_sem]
        refine hK _ _ fun nx => ?_; clear hK K; try clear kk
        refine awp_seq ?_
        refine awp_false (by first | exact congrArg PV.bool h13 | rfl) ?_
        refine awp_exit ?_; refine nmx ?_
        refine fragN ?_
        refine cut_id ?_
        refine ⟨_, (Option.some.inj hh), ?_⟩
        first | exact ⟨_, _, _, _, rfl⟩ | (simp only [diptychlaw18_Cell.pv_eq, api_Attr.pv_eq, api_Node.pv_eq, step_Step.pv_eq, diff_change.pv_eq, maps_Range.pv_eq, pvL, List.map_cons, List.map_nil, List.map_append, rune1]; exact ⟨_, _, _, _, rfl⟩) | (simp only [diptychlaw18_Cell.pv_eq, api_Attr.pv_eq, api_Node.pv_eq, step_Step.pv_eq, diff_change.pv_eq, maps_Range.pv_eq, pvL, List.map_cons, List.map_nil, List.map_append, rune1, h13]; exact ⟨_, _, _, _, rfl⟩)
      | cons y_25 suf ih =>
        intro pre v_20 v_21 hsplit hidx hh nx g1001
        rw [diff_change_set_x_l0] at hh
        refine hI _ ?_
        obtain ⟨hl0a, hl0b, hl0d, hl0w, h13⟩ := walk_cons (f := api_Attr.pv) hsplit hidx hlen0
        refine awp_first fun K kk hK => ?_
        simp only [go_sem]
        refine hK _ _ fun nx => ?_; clear hK K; try clear kk
        refine awp_seq ?_
        refine awp_true (by first | exact congrArg PV.bool h13 | rfl) ?_
        refine awp_skip ?_; refine nmx ?_
        refine awp_seq ?_
        refine awp_block ?_
        refine awp_first fun K kk hK => ?_
        simp only [go_sem, hl0a, hl0b, hl0d, hl0w]
        refine hK _ _ fun nx => ?_; clear hK K; try clear kk
        by_cases h14 : (decide (v_20 < (Attrs_9.length : Int))) = true
        · rw [if_pos h14] at hh
          obtain ⟨x_26, h15, hh⟩ := bind_ex hh
          obtain ⟨h15a, h15b, h15c⟩ := rd_some h15
          have h15d := rd_get (f := api_Attr.pv) h15c
          have h15f := rd_more (f := api_Attr.pv) h15c
          try simp only [Int.toNat_natCast, Int.reduceToNat] at h15d h15f
          refine awp_first fun K kk hK => ?_
          simp only [go_sem, h14, of_decide_eq_true h14, h15a, h15b, h15d, h15f.1, h15f.2, h14, of_decide_eq_true h14, hl0a, hl0b, hl0d, hl0w]
          (repeat refine sd ?_)
          refine hK _ _ fun nx => ?_; clear hK K; try clear kk
          by_cases h16 : (!(x_26.Value == y_25.Value)) = true
          · rw [if_pos h16] at hh
            refine awp_true (by first | exact congrArg PV.bool h16 | rfl) ?_
            obtain ⟨l_27, h17, hh⟩ := bind_ex hh
            obtain ⟨h17a, h17c⟩ := app_some h17
            have h17d := app_map (f := step_Step.pv) h17c
            have h17e := app_len h17c
            try simp only [List.length_cons, List.length_nil, Nat.zero_add, Nat.reduceAdd] at h17a h17e
            try simp only [h17e] at h17a
            try simp only [List.map_cons, List.map_nil, List.nil_append, List.append_nil, List.cons_append, List.singleton_append, rune1, diptychlaw18_Cell.pv_eq, api_Attr.pv_eq, api_Node.pv_eq, step_Step.pv_eq, diff_change.pv_eq, maps_Range.pv_eq, pvL] at h17d
            refine awp_region fun K kk hK => ?_
            simp only [go_sem, h15a, h15b, h15d, h15f.1, h15f.2, h17a, h17d, h17e, hl0a, hl0b, hl0d, hl0w]
            (repeat refine sd ?_)
            refine hK _ _ fun nx => ?_; clear hK K; try clear kk
            refine nmx ?_
            refine awp_region fun K kk hK => ?_
            simp only [go_sem, hl0a, hl0b, hl0d, hl0w]
            refine hK _ _ fun nx => ?_; clear hK K; try clear kk
            refine nmx ?_
            have ih' := ih (pre ++ [y_25]) (v_20 + 1) _ (by rw [hsplit]; simp) (by simp [hidx]) hh nx
            refine cut_id ?_
            first | exact ih' _ | (simp only [diptychlaw18_Cell.pv_eq, api_Attr.pv_eq, api_Node.pv_eq, step_Step.pv_eq, diff_change.pv_eq, maps_Range.pv_eq, pvL, List.map_cons, List.map_nil, List.map_append, rune1, h17e] at ih' ⊢; exact ih' _) | (simp only [diptychlaw18_Cell.pv_eq, api_Attr.pv_eq, api_Node.pv_eq, step_Step.pv_eq, diff_change.pv_eq, maps_Range.pv_eq, pvL, List.map_cons, List.map_nil, List.map_append, rune1, h17e, h13, h14, h16] at ih' ⊢; exact ih' _)
          · rw [if_neg h16] at hh
            replace h16 := Bool.eq_false_iff.mpr h16
            refine awp_false (by first | exact congrArg PV.bool h16 | rfl) ?_
            refine awp_skip ?_; refine nmx ?_
            refine awp_region fun K kk hK => ?_
            simp only [go_sem, hl0a, hl0b, hl0d, hl0w]
            refine hK _ _ fun nx => ?_; clear hK K; try clear kk
            refine nmx ?_
            have ih' := ih (pre ++ [y_25]) (v_20 + 1) _ (by rw [hsplit]; simp) (by simp [hidx]) hh nx
            refine cut_id ?_
            first | exact ih' _ | (simp only [diptychlaw18_Cell.pv_eq, api_Attr.pv_eq, api_Node.pv_eq, step_Step.pv_eq, diff_change.pv_eq, maps_Range.pv_eq, pvL, List.map_cons, List.map_nil, List.map_append, rune1] at ih' ⊢; exact ih' _) | (simp only [diptychlaw18_Cell.pv_eq, api_Attr.pv_eq, api_Node.pv_eq, step_Step.pv_eq, diff_change.pv_eq, maps_Range.pv_eq, pvL, List.map_cons, List.map_nil, List.map_append, rune1, h13, h14, h16] at ih' ⊢; exact ih' _)
        · rw [if_neg h14] at hh
          replace h14 := Bool.eq_false_iff.mpr h14
          refine awp_first fun K kk hK => ?_
          simp only [go_sem, h14, of_decide_eq_false h14, h14, of_decide_eq_false h14, hl0a, hl0b, hl0d, hl0w]
          (repeat refine sd ?_)
          refine hK _ _ fun nx => ?_; clear hK K; try clear kk
          refine awp_false rfl ?_
          refine awp_skip ?_; refine nmx ?_
          refine awp_region fun K kk hK => ?_
          simp only [go_sem, hl0a, hl0b, hl0d, hl0w]
          refine hK _ _ fun nx => ?_; clear hK K; try clear kk
          refine nmx ?_
          have ih' := ih (pre ++ [y_25]) (v_20 + 1) _ (by rw [hsplit]; simp) (by simp [hidx]) hh nx
          refine cut_id ?_
          first | exact ih' _ | (simp only [diptychlaw18_Cell.pv_eq, api_Attr.pv_eq, api_Node.pv_eq, step_Step.pv_eq, diff_change.pv_eq, maps_Range.pv_eq, pvL, List.map_cons, List.map_nil, List.map_append, rune1] at ih' ⊢; exact ih' _) | (simp only [diptychlaw18_Cell.pv_eq, api_Attr.pv_eq, api_Node.pv_eq, step_Step.pv_eq, diff_change.pv_eq, maps_Range.pv_eq, pvL, List.map_cons, List.map_nil, List.map_append, rune1, h13, h14] at ih' ⊢; exact ih' _)
    exact key Attrs_4 [] _ _ rfl rfl f0 _ _
  · rintro s ⟨t, hless, v_30, rfl, v_28, v_29, nx, g1001, rfl⟩
    try dsimp only at hh
    refine nmy ?_
    first | (refine cut_less hless ?_; try refine cut_awp ?_) | refine frag_less hless ?_ | refine body_less hless ?_
    obtain hR := Option.some.inj hh
    subst hR
    refine body_end ?_
    refine ret_pureB ?_ (by rfl) ?_
    · simp only [go_sem, rvsRes, rvRes, cellRes, tupOf, pur2, List.map_cons, List.map_append, List.head?_cons]
      all_goals exact wkw
    · (try simp only [go_sem]); (try simp only [List.length_append, List.map_append]); all_goals exact wkb
  · intro i s h; exact h.elim
  · intro s h; exact h.elim

end Go.Proofs.YtpjdafhmneiohaaDoor
