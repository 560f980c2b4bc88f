/- What the functions answer, the program answers (1). -/
import Derived.Test.YtclohbgnaopjfaaGreatDoorAgC
import Derived.Test.YtclohbgnaopjfaaGreatDoorAgF
import Derived.Test.YtclohbgnaopjfaaGreatDoorAgK0
import Derived.Test.YtclohbgnaopjfaaGreatDoorAgL
namespace Go.Proofs.YtclohbgnaopjfaaGreatDoor
set_option linter.unusedSimpArgs false
set_option linter.unusedVariables false
open Go
set_option maxRecDepth 100000

theorem node_formed_grp : ∀ kr : Nat, (∀ (n_1 : api_Node) (R : Bool), node_formed_k kr n_1 = some R → PC Tryz.prog 95 [.agg [.str n_1.Kind, .str n_1.Text, .list 1 (n_1.Marks.map PV.str), .list 2 (n_1.Attrs.map api_Attr.pv), .list 5 (n_1.Kids.map api_Node.pv)]] (.bool R)) := by
  intro kr
  induction kr with
  | zero => exact (by intro n_1 R hh; rw [node_formed_k] at hh; cases hh)
  | succ kr ih =>
    have ih_node_formed := ih
    clear ih
    intro n_1 R hh
    rw [node_formed_k] at hh
    refine start_node_formed rfl ?_
    refine awp_first fun K kk hK => ?_
    simp only [go_sem]
    refine hK _ _ fun nx => ?_; clear hK K; try clear kk
    refine awp_seq ?_
    obtain ⟨istext_2, h1, hh⟩ := bind_ex hh
    refine awp_first fun K kk hK => ?_
    simp only [go_sem]
    refine step_call2 (node_isText_ok _ _ h1) (by (try simp only [go_sem]) <;> exact wkl) (by rfl) (by rfl) ?_
    simp only [go_sem]
    refine hK _ _ fun nx => ?_; clear hK K; try clear kk
    by_cases h2 : (istext_2) = true
    · rw [if_pos h2] at hh
      refine awp_true (by first | exact congrArg PV.bool h2 | rfl) ?_
      by_cases h3 : (!(n_1.Text == ([] : Str))) = true
      · rw [if_pos h3] at hh
        obtain ⟨valids_3, h4, hh⟩ := bind_ex hh
        by_cases h5 : (valids_3) = true
        · rw [if_pos h5] at hh
          obtain ⟨rise_4, h6, hh⟩ := bind_ex hh
          by_cases h7 : (rise_4) = true
          · rw [if_pos h7] at hh
            refine awp_first fun K kk hK => ?_
            simp only [go_sem, h3, h3, h5, h5, h7, h7]
            (repeat refine sd ?_)
            refine step_call2 (unicode_utf8_ValidString_ok _ _ h4) (by (try simp only [go_sem, h3, h3, h5, h5, h7, h7]) <;> exact wkl) (by rfl) (by rfl) ?_
            simp only [go_sem, h3, h3, h5, h5, h7, h7]
            (repeat refine sd ?_)
            refine step_call2 (node_rise_ok _ _ h6) (by (try simp only [go_sem, h3, h3, h5, h5, h7, h7]) <;> exact wkl) (by rfl) (by rfl) ?_
            simp only [go_sem, h3, h3, h5, h5, h7, h7]
            (repeat refine sd ?_)
            refine hK _ _ fun nx => ?_; clear hK K; try clear kk
            refine awp_ret ?_; refine nmx ?_
            obtain hR := Option.some.inj hh
            subst hR
            exact ret_p2
          · rw [if_neg h7] at hh
            replace h7 := Bool.eq_false_iff.mpr h7
            refine awp_first fun K kk hK => ?_
            simp only [go_sem, h3, h3, h5, h5, h7, h7]
            (repeat refine sd ?_)
            refine step_call2 (unicode_utf8_ValidString_ok _ _ h4) (by (try simp only [go_sem, h3, h3, h5, h5, h7, h7]) <;> exact wkl) (by rfl) (by rfl) ?_
            simp only [go_sem, h3, h3, h5, h5, h7, h7]
            (repeat refine sd ?_)
            refine step_call2 (node_rise_ok _ _ h6) (by (try simp only [go_sem, h3, h3, h5, h5, h7, h7]) <;> exact wkl) (by rfl) (by rfl) ?_
            simp only [go_sem, h3, h3, h5, h5, h7, h7]
            (repeat refine sd ?_)
            refine hK _ _ fun nx => ?_; clear hK K; try clear kk
            refine awp_ret ?_; refine nmx ?_
            obtain hR := Option.some.inj hh
            subst hR
            exact ret_p2
        · rw [if_neg h5] at hh
          replace h5 := Bool.eq_false_iff.mpr h5
          refine awp_first fun K kk hK => ?_
          simp only [go_sem, h3, h3, h5, h5]
          (repeat refine sd ?_)
          refine step_call2 (unicode_utf8_ValidString_ok _ _ h4) (by (try simp only [go_sem, h3, h3, h5, h5]) <;> exact wkl) (by rfl) (by rfl) ?_
          simp only [go_sem, h3, h3, h5, h5]
          (repeat refine sd ?_)
          refine hK _ _ fun nx => ?_; clear hK K; try clear kk
          refine awp_ret ?_; refine nmx ?_
          obtain hR := Option.some.inj hh
          subst hR
          exact ret_p2
      · rw [if_neg h3] at hh
        replace h3 := Bool.eq_false_iff.mpr h3
        refine awp_first fun K kk hK => ?_
        simp only [go_sem, h3, h3]
        (repeat refine sd ?_)
        refine hK _ _ fun nx => ?_; clear hK K; try clear kk
        refine awp_ret ?_; refine nmx ?_
        obtain hR := Option.some.inj hh
        subst hR
        exact ret_p2
    · rw [if_neg h2] at hh
      replace h2 := Bool.eq_false_iff.mpr h2
      refine awp_false (by first | exact congrArg PV.bool h2 | rfl) ?_
      refine awp_skip ?_; refine nmx ?_
      refine awp_first fun K kk hK => ?_
      simp only [go_sem]
      refine hK _ _ fun nx => ?_; clear hK K; try clear kk
      refine awp_seq ?_
      refine awp_first fun K kk hK => ?_
      simp only [go_sem]
      refine hK _ _ fun nx => ?_; clear hK K; try clear kk
      obtain ⟨e0, f0, hh⟩ := bind_ex hh
      obtain ⟨hlen0, f0⟩ := chk_some f0
      refine awp_fragE (CutTo (fun s => ∃ names_19, .inr names_19 = e0 ∧ ∃ (v_17 : Int) (v_18 : Bool) (nx : Nat) (g1 : Nat) (g3 : Nat), s = ⟨[(1, .box 1 g1 0), (3, .row 3 g3 names_19.length), (34, .list 2 (n_1.Attrs.map api_Attr.pv)), (35, .int .i64 (n_1.Attrs.length : Int)), (36, .int .i64 v_17), (37, .bool v_18)], [(1, g1, .var 28 [.str n_1.Kind, .str n_1.Text, .list 1 (n_1.Marks.map PV.str), .list 2 (n_1.Attrs.map api_Attr.pv), .list 5 (n_1.Kids.map api_Node.pv)]), (3, g3, .row false 1 (names_19.map PV.str))], nx⟩))
        (fun i s => False)
        (fun s => ∃ res_16, .inl res_16 = e0 ∧ bodyR Tryz.prog [.tmp 2] (.bool res_16) [] .ret s) ?_ ?_ ?_ ?_
      · refine awp_block ?_
        refine awp_loopJ fun I hI => ?_
        have key : ∀ (suf pre : List api_Attr) (v_8 : Int) (names_9 : (List Str)), n_1.Attrs = pre ++ suf → v_8 = (pre.length : Int) → node_formed_l0 suf v_8 names_9 = some e0 → ∀ (nx : Nat) (g1 : Nat) (g3 : Nat), I ⟨[(1, .box 1 g1 0), (3, .row 3 g3 names_9.length), (34, .list 2 (n_1.Attrs.map api_Attr.pv)), (35, .int .i64 (n_1.Attrs.length : Int)), (36, .int .i64 v_8)], [(1, g1, .var 28 [.str n_1.Kind, .str n_1.Text, .list 1 (n_1.Marks.map PV.str), .list 2 (n_1.Attrs.map api_Attr.pv), .list 5 (n_1.Kids.map api_Node.pv)]), (3, g3, .row false 1 (names_9.map PV.str))], nx⟩ := by
          intro suf
          induction suf with
          | nil =>
            intro pre v_8 names_9 hsplit hidx hh nx g1 g3
            rw [node_formed_l0] at hh
            refine hI _ ?_
            have h18 := walk_nil hsplit hidx
            refine awp_first fun K kk hK => ?_
            simp only [go_sem]
            refine hK _ _ fun nx => ?_; clear hK K; try clear kk
            refine awp_seq ?_
            refine awp_false (by first | exact congrArg PV.bool h18 | rfl) ?_
            refine awp_exit ?_; refine nmx ?_
            refine fragN ?_
            refine cut_id ?_
            refine ⟨_, (Option.some.inj hh), ?_⟩
            first | exact ⟨_, _, _, _, _, rfl⟩ | (simp only [api_Attr.pv_eq, api_Node.pv_eq, step_Step.pv_eq, diptychref11_Step.pv_eq, pvL, List.map_cons, List.map_nil, List.map_append, rune1]; exact ⟨_, _, _, _, _, rfl⟩) | (simp only [api_Attr.pv_eq, api_Node.pv_eq, step_Step.pv_eq, diptychref11_Step.pv_eq, pvL, List.map_cons, List.map_nil, List.map_append, rune1, h18, h2]; exact ⟨_, _, _, _, _, rfl⟩)
          | cons y_13 suf ih =>
            intro pre v_8 names_9 hsplit hidx hh nx g1 g3
            rw [node_formed_l0] at hh
            refine hI _ ?_
            obtain ⟨hl0a, hl0b, hl0d, hl0w, h18⟩ := walk_cons (f := api_Attr.pv) hsplit hidx hlen0
            refine awp_first fun K kk hK => ?_
            simp only [go_sem]
            refine hK _ _ fun nx => ?_; clear hK K; try clear kk
            refine awp_seq ?_
            refine awp_true (by first | exact congrArg PV.bool h18 | rfl) ?_
            refine awp_skip ?_; refine nmx ?_
            refine awp_seq ?_
            refine awp_block ?_
            refine awp_first fun K kk hK => ?_
            simp only [go_sem, hl0a, hl0b, hl0d, hl0w]
            refine hK _ _ fun nx => ?_; clear hK K; try clear kk
            refine awp_seq ?_
            obtain ⟨value_14, h19, hh⟩ := bind_ex hh
            refine awp_first fun K kk hK => ?_
            simp only [go_sem, hl0a, hl0b, hl0d, hl0w]
            refine step_call2 (node_Value_ok _ _ h19) (by (try simp only [go_sem, hl0a, hl0b, hl0d, hl0w]) <;> exact wkl) (by rfl) (by rfl) ?_
            simp only [go_sem, hl0a, hl0b, hl0d, hl0w]
            refine hK _ _ fun nx => ?_; clear hK K; try clear kk
            by_cases h20 : (!value_14) = true
            · rw [if_pos h20] at hh
              refine awp_true (by first | exact congrArg PV.bool h20 | rfl) ?_
              refine awp_first fun K kk hK => ?_
              simp only [go_sem, hl0a, hl0b, hl0d, hl0w]
              refine hK _ _ fun nx => ?_; clear hK K; try clear kk
              refine awp_ret ?_; refine nmx ?_
              refine fragR ⟨_, (Option.some.inj hh), ?_⟩
              exact ret_p2
            · rw [if_neg h20] at hh
              replace h20 := Bool.eq_false_iff.mpr h20
              refine awp_false (by first | exact congrArg PV.bool h20 | rfl) ?_
              refine awp_skip ?_; refine nmx ?_
              obtain ⟨l_15, h21, hh⟩ := bind_ex hh
              obtain ⟨h21a, h21c⟩ := app_some h21
              have h21d := app_map (f := PV.str) h21c
              have h21e := app_len h21c
              try simp only [List.length_cons, List.length_nil, Nat.zero_add, Nat.reduceAdd] at h21a h21e
              try simp only [h21e] at h21a
              try simp only [List.map_cons, List.map_nil, List.nil_append, List.append_nil, List.cons_append, List.singleton_append, rune1, api_Attr.pv_eq, api_Node.pv_eq, step_Step.pv_eq, diptychref11_Step.pv_eq, pvL] at h21d
              refine awp_region fun K kk hK => ?_
              simp only [go_sem, h21a, h21d, h21e, hl0a, hl0b, hl0d, hl0w]
              (repeat refine sd ?_)
              refine hK _ _ fun nx => ?_; clear hK K; try clear kk
              refine nmx ?_
              refine awp_region fun K kk hK => ?_
              simp only [go_sem, hl0a, hl0b, hl0d, hl0w]
              refine hK _ _ fun nx => ?_; clear hK K; try clear kk
              refine nmx ?_
              have ih' := ih (pre ++ [y_13]) (v_8 + 1) _ (by rw [hsplit]; simp) (by simp [hidx]) hh nx
              refine cut_id ?_
              first | exact ih' _ _ | (simp only [api_Attr.pv_eq, api_Node.pv_eq, step_Step.pv_eq, diptychref11_Step.pv_eq, pvL, List.map_cons, List.map_nil, List.map_append, rune1, h21e] at ih' ⊢; exact ih' _ _) | (simp only [api_Attr.pv_eq, api_Node.pv_eq, step_Step.pv_eq, diptychref11_Step.pv_eq, pvL, List.map_cons, List.map_nil, List.map_append, rune1, h21e, h18, h2, h20] at ih' ⊢; exact ih' _ _)
        exact key n_1.Attrs [] _ _ rfl rfl f0 _ _ _
      · rintro s ⟨t, hless, names_19, rfl, v_17, v_18, nx, g1, g3, rfl⟩
        try dsimp only at hh
        refine nmy ?_
        first | (refine cut_less hless ?_; try refine cut_awp ?_) | refine frag_less hless ?_ | refine body_less hless ?_
        refine awp_seq ?_
        obtain ⟨name_20, h22, hh⟩ := bind_ex hh
        by_cases h23 : (!name_20) = true
        · rw [if_pos h23] at hh
          refine awp_first fun K kk hK => ?_
          simp only [go_sem, h23, h23]
          (repeat refine sd ?_)
          refine step_call2 (node_Name_ok _ _ h22) (by (try simp only [go_sem, h23, h23]) <;> exact wkl) (by rfl) (by rfl) ?_
          simp only [go_sem, h23, h23]
          (repeat refine sd ?_)
          refine hK _ _ fun nx => ?_; clear hK K; try clear kk
          refine awp_true rfl ?_
          refine awp_first fun K kk hK => ?_
          simp only [go_sem]
          refine hK _ _ fun nx => ?_; clear hK K; try clear kk
          refine awp_ret ?_; refine nmx ?_
          obtain hR := Option.some.inj hh
          subst hR
          exact ret_p2
        · rw [if_neg h23] at hh
          replace h23 := Bool.eq_false_iff.mpr h23
          by_cases h24 : (!(n_1.Text == ([] : Str))) = true
          · rw [if_pos h24] at hh
            refine awp_first fun K kk hK => ?_
            simp only [go_sem, h23, h23, h24, h24]
            (repeat refine sd ?_)
            refine step_call2 (node_Name_ok _ _ h22) (by (try simp only [go_sem, h23, h23, h24, h24]) <;> exact wkl) (by rfl) (by rfl) ?_
            simp only [go_sem, h23, h23, h24, h24]
            (repeat refine sd ?_)
            refine hK _ _ fun nx => ?_; clear hK K; try clear kk
            refine awp_true rfl ?_
            refine awp_first fun K kk hK => ?_
            simp only [go_sem]
            refine hK _ _ fun nx => ?_; clear hK K; try clear kk
            refine awp_ret ?_; refine nmx ?_
            obtain hR := Option.some.inj hh
            subst hR
            exact ret_p2
          · rw [if_neg h24] at hh
            replace h24 := Bool.eq_false_iff.mpr h24
            by_cases h25 : (decide ((n_1.Marks.length : Int) > (0 : Int))) = true
            · rw [if_pos h25] at hh
              refine awp_first fun K kk hK => ?_
              simp only [go_sem, h23, h23, h24, h24, h25, of_decide_eq_true h25, h25, of_decide_eq_true h25]
              (repeat refine sd ?_)
              refine step_call2 (node_Name_ok _ _ h22) (by (try simp only [go_sem, h23, h23, h24, h24, h25, of_decide_eq_true h25, h25, of_decide_eq_true h25]) <;> exact wkl) (by rfl) (by rfl) ?_
              simp only [go_sem, h23, h23, h24, h24, h25, of_decide_eq_true h25, h25, of_decide_eq_true h25]
              (repeat refine sd ?_)
              refine hK _ _ fun nx => ?_; clear hK K; try clear kk
              refine awp_true rfl ?_
              refine awp_first fun K kk hK => ?_
              simp only [go_sem]
              refine hK _ _ fun nx => ?_; clear hK K; try clear kk
              refine awp_ret ?_; refine nmx ?_
              obtain hR := Option.some.inj hh
              subst hR
              exact ret_p2
            · rw [if_neg h25] at hh
              replace h25 := Bool.eq_false_iff.mpr h25
              obtain ⟨rise_21, h26, hh⟩ := bind_ex hh
              refine awp_first fun K kk hK => ?_
              simp only [go_sem, h23, h23, h24, h24, h25, of_decide_eq_false h25, h25, of_decide_eq_false h25]
              (repeat refine sd ?_)
              refine step_call2 (node_Name_ok _ _ h22) (by (try simp only [go_sem, h23, h23, h24, h24, h25, of_decide_eq_false h25, h25, of_decide_eq_false h25]) <;> exact wkl) (by rfl) (by rfl) ?_
              simp only [go_sem, h23, h23, h24, h24, h25, of_decide_eq_false h25, h25, of_decide_eq_false h25]
              (repeat refine sd ?_)
              refine step_call2 (node_rise_ok _ _ h26) (by (try simp only [go_sem, h23, h23, h24, h24, h25, of_decide_eq_false h25, h25, of_decide_eq_false h25]) <;> exact wkl) (by rfl) (by rfl) ?_
              simp only [go_sem, h23, h23, h24, h24, h25, of_decide_eq_false h25, h25, of_decide_eq_false h25]
              (repeat refine sd ?_)
              refine hK _ _ fun nx => ?_; clear hK K; try clear kk
              by_cases h27 : (!rise_21) = true
              · rw [if_pos h27] at hh
                refine awp_true (by first | exact congrArg PV.bool h27 | rfl) ?_
                refine awp_first fun K kk hK => ?_
                simp only [go_sem]
                refine hK _ _ fun nx => ?_; clear hK K; try clear kk
                refine awp_ret ?_; refine nmx ?_
                obtain hR := Option.some.inj hh
                subst hR
                exact ret_p2
              · rw [if_neg h27] at hh
                replace h27 := Bool.eq_false_iff.mpr h27
                refine awp_false (by first | exact congrArg PV.bool h27 | rfl) ?_
                refine awp_skip ?_; refine nmx ?_
                refine awp_seq ?_
                refine awp_first fun K kk hK => ?_
                simp only [go_sem]
                refine hK _ _ fun nx => ?_; clear hK K; try clear kk
                obtain ⟨e1, f1, hh⟩ := bind_ex hh
                obtain ⟨hlen1, f1⟩ := chk_some f1
                refine awp_fragE (CutTo (fun s => .inr () = e1 ∧ ∃ (v_36 : Int) (v_37 : Bool) (nx : Nat) (g1 : Nat), s = ⟨[(1, .box 1 g1 0), (71, .list 5 (n_1.Kids.map api_Node.pv)), (72, .int .i64 (n_1.Kids.length : Int)), (73, .int .i64 v_36), (74, .bool v_37)], [(1, g1, .var 28 [.str n_1.Kind, .str n_1.Text, .list 1 (n_1.Marks.map PV.str), .list 2 (n_1.Attrs.map api_Attr.pv), .list 5 (n_1.Kids.map api_Node.pv)])], nx⟩))
                  (fun i s => False)
                  (fun s => ∃ res_35, .inl res_35 = e1 ∧ bodyR Tryz.prog [.tmp 2] (.bool res_35) [] .ret s) ?_ ?_ ?_ ?_
                · refine awp_block ?_
                  refine awp_loopJ fun I hI => ?_
                  have key : ∀ (suf pre : List api_Node) (v_26 : Int), n_1.Kids = pre ++ suf → v_26 = (pre.length : Int) → node_formed_l1 n_1 (node_formed_k kr) suf v_26 = some e1 → ∀ (nx : Nat) (g1 : Nat), I ⟨[(1, .box 1 g1 0), (71, .list 5 (n_1.Kids.map api_Node.pv)), (72, .int .i64 (n_1.Kids.length : Int)), (73, .int .i64 v_26)], [(1, g1, .var 28 [.str n_1.Kind, .str n_1.Text, .list 1 (n_1.Marks.map PV.str), .list 2 (n_1.Attrs.map api_Attr.pv), .list 5 (n_1.Kids.map api_Node.pv)])], nx⟩ := by
                    intro suf
                    induction suf with
                    | nil =>
                      intro pre v_26 hsplit hidx hh nx g1
                      rw [node_formed_l1] at hh
                      refine hI _ ?_
                      have h44 := walk_nil hsplit hidx
                      refine awp_first fun K kk hK => ?_
                      simp only [go_sem]
                      refine hK _ _ fun nx => ?_; clear hK K; try clear kk
                      refine awp_seq ?_
                      refine awp_false (by first | exact congrArg PV.bool h44 | rfl) ?_
                      refine awp_exit ?_; refine nmx ?_
                      refine fragN ?_
                      refine cut_id ?_
                      refine ⟨(Option.some.inj hh), ?_⟩
                      first | exact ⟨_, _, _, _, rfl⟩ | (simp only [api_Attr.pv_eq, api_Node.pv_eq, step_Step.pv_eq, diptychref11_Step.pv_eq, pvL, List.map_cons, List.map_nil, List.map_append, rune1]; exact ⟨_, _, _, _, rfl⟩) | (simp only [api_Attr.pv_eq, api_Node.pv_eq, step_Step.pv_eq, diptychref11_Step.pv_eq, pvL, List.map_cons, List.map_nil, List.map_append, rune1, h2, h23, h24, h25, h27, h44]; exact ⟨_, _, _, _, rfl⟩)
                    | cons y_31 suf ih =>
                      intro pre v_26 hsplit hidx hh nx g1
                      rw [node_formed_l1] at hh
                      refine hI _ ?_
                      obtain ⟨hl1a, hl1b, hl1d, hl1w, h44⟩ := walk_cons (f := api_Node.pv) hsplit hidx hlen1
                      refine awp_first fun K kk hK => ?_
                      simp only [go_sem]
                      refine hK _ _ fun nx => ?_; clear hK K; try clear kk
                      refine awp_seq ?_
                      refine awp_true (by first | exact congrArg PV.bool h44 | rfl) ?_
                      refine awp_skip ?_; refine nmx ?_
                      refine awp_seq ?_
                      refine awp_block ?_
                      refine awp_first fun K kk hK => ?_
                      simp only [go_sem, hl1a, hl1b, hl1d, hl1w]
                      refine hK _ _ fun nx => ?_; clear hK K; try clear kk
                      obtain ⟨formed_32, h45, hh⟩ := bind_ex hh
                      by_cases h46 : (!formed_32) = true
                      · rw [if_pos h46] at hh
                        refine awp_first fun K kk hK => ?_
                        simp only [go_sem, h46, h46, hl1a, hl1b, hl1d, hl1w]
                        (repeat refine sd ?_)
                        refine step_call2 (ih_node_formed _ _ h45) (by (try simp only [go_sem, h46, h46, hl1a, hl1b, hl1d, hl1w]) <;> exact wkl) (by rfl) (by rfl) ?_
                        simp only [go_sem, h46, h46, hl1a, hl1b, hl1d, hl1w]
                        (repeat refine sd ?_)
                        refine hK _ _ fun nx => ?_; clear hK K; try clear kk
                        refine awp_true rfl ?_
                        refine awp_first fun K kk hK => ?_
                        simp only [go_sem, hl1a, hl1b, hl1d, hl1w]
                        refine hK _ _ fun nx => ?_; clear hK K; try clear kk
                        refine awp_ret ?_; refine nmx ?_
                        refine fragR ⟨_, (Option.some.inj hh), ?_⟩
                        exact ret_p2
                      · rw [if_neg h46] at hh
                        replace h46 := Bool.eq_false_iff.mpr h46
                        by_cases h47 : (decide (v_26 > (0 : Int))) = true
                        · rw [if_pos h47] at hh
                          obtain ⟨x_33, h48, hh⟩ := bind_ex hh
                          obtain ⟨h48a, h48b, h48c⟩ := rd_some h48
                          have h48d := rd_get (f := api_Node.pv) h48c
                          have h48f := rd_more (f := api_Node.pv) h48c
                          try simp only [Int.toNat_natCast, Int.reduceToNat] at h48d h48f
                          obtain ⟨alike_34, h49, hh⟩ := bind_ex hh
                          refine awp_first fun K kk hK => ?_
                          simp only [go_sem, h46, h47, of_decide_eq_true h47, h48a, h48b, h48d, h48f.1, h48f.2, h47, of_decide_eq_true h47, h46, hl1a, hl1b, hl1d, hl1w]
                          (repeat refine sd ?_)
                          refine step_call2 (ih_node_formed _ _ h45) (by (try simp only [go_sem, h46, h47, of_decide_eq_true h47, h48a, h48b, h48d, h48f.1, h48f.2, h47, of_decide_eq_true h47, h46, hl1a, hl1b, hl1d, hl1w]) <;> exact wkl) (by rfl) (by rfl) ?_
                          simp only [go_sem, h46, h47, of_decide_eq_true h47, h48a, h48b, h48d, h48f.1, h48f.2, h47, of_decide_eq_true h47, h46, hl1a, hl1b, hl1d, hl1w]
                          (repeat refine sd ?_)
                          refine step_call2 (node_alike_ok _ _ _ h49) (by (try simp only [go_sem, h46, h47, of_decide_eq_true h47, h48a, h48b, h48d, h48f.1, h48f.2, h47, of_decide_eq_true h47, h46, hl1a, hl1b, hl1d, hl1w]) <;> exact wkl) (by rfl) (by rfl) ?_
                          simp only [go_sem, h46, h47, of_decide_eq_true h47, h48a, h48b, h48d, h48f.1, h48f.2, h47, of_decide_eq_true h47, h46, hl1a, hl1b, hl1d, hl1w]
                          (repeat refine sd ?_)
                          refine hK _ _ fun nx => ?_; clear hK K; try clear kk
                          by_cases h50 : (alike_34) = true
                          · rw [if_pos h50] at hh
                            refine awp_true (by first | exact congrArg PV.bool h50 | rfl) ?_
                            refine awp_first fun K kk hK => ?_
                            simp only [go_sem, hl1a, hl1b, hl1d, hl1w]
                            refine hK _ _ fun nx => ?_; clear hK K; try clear kk
                            refine awp_ret ?_; refine nmx ?_
                            refine fragR ⟨_, (Option.some.inj hh), ?_⟩
                            exact ret_p2
                          · rw [if_neg h50] at hh
                            replace h50 := Bool.eq_false_iff.mpr h50
                            refine awp_false (by first | exact congrArg PV.bool h50 | rfl) ?_
                            refine awp_skip ?_; refine nmx ?_
                            refine awp_region fun K kk hK => ?_
                            simp only [go_sem, hl1a, hl1b, hl1d, hl1w]
                            refine hK _ _ fun nx => ?_; clear hK K; try clear kk
                            refine nmx ?_
                            have ih' := ih (pre ++ [y_31]) (v_26 + 1) (by rw [hsplit]; simp) (by simp [hidx]) hh nx
                            refine cut_id ?_
                            first | exact ih' _ | (simp only [api_Attr.pv_eq, api_Node.pv_eq, step_Step.pv_eq, diptychref11_Step.pv_eq, pvL, List.map_cons, List.map_nil, List.map_append, rune1] at ih' ⊢; exact ih' _) | (simp only [api_Attr.pv_eq, api_Node.pv_eq, step_Step.pv_eq, diptychref11_Step.pv_eq, pvL, List.map_cons, List.map_nil, List.map_append, rune1, h2, h23, h24, h25, h27, h44, h46, h47, h50] at ih' ⊢; exact ih' _)
                        · rw [if_neg h47] at hh
                          replace h47 := Bool.eq_false_iff.mpr h47
                          refine awp_first fun K kk hK => ?_
                          simp only [go_sem, h46, h47, of_decide_eq_false h47, h47, of_decide_eq_false h47, h46, hl1a, hl1b, hl1d, hl1w]
                          (repeat refine sd ?_)
                          refine step_call2 (ih_node_formed _ _ h45) (by (try simp only [go_sem, h46, h47, of_decide_eq_false h47, h47, of_decide_eq_false h47, h46, hl1a, hl1b, hl1d, hl1w]) <;> exact wkl) (by rfl) (by rfl) ?_
                          simp only [go_sem, h46, h47, of_decide_eq_false h47, h47, of_decide_eq_false h47, h46, hl1a, hl1b, hl1d, hl1w]
                          (repeat refine sd ?_)
                          refine hK _ _ fun nx => ?_; clear hK K; try clear kk
                          refine awp_false rfl ?_
                          refine awp_skip ?_; refine nmx ?_
                          refine awp_region fun K kk hK => ?_
                          simp only [go_sem, hl1a, hl1b, hl1d, hl1w]
                          refine hK _ _ fun nx => ?_; clear hK K; try clear kk
                          refine nmx ?_
                          have ih' := ih (pre ++ [y_31]) (v_26 + 1) (by rw [hsplit]; simp) (by simp [hidx]) hh nx
                          refine cut_id ?_
                          first | exact ih' _ | (simp only [api_Attr.pv_eq, api_Node.pv_eq, step_Step.pv_eq, diptychref11_Step.pv_eq, pvL, List.map_cons, List.map_nil, List.map_append, rune1] at ih' ⊢; exact ih' _) | (simp only [api_Attr.pv_eq, api_Node.pv_eq, step_Step.pv_eq, diptychref11_Step.pv_eq, pvL, List.map_cons, List.map_nil, List.map_append, rune1, h2, h23, h24, h25, h27, h44, h46, h47] at ih' ⊢; exact ih' _)
                  exact key n_1.Kids [] _ rfl rfl f1 _ _
                · rintro s ⟨t, hless, rfl, v_36, v_37, nx, g1, rfl⟩
                  try dsimp only at hh
                  refine nmy ?_
                  first | (refine cut_less hless ?_; try refine cut_awp ?_) | refine frag_less hless ?_ | refine body_less hless ?_
                  refine awp_first fun K kk hK => ?_
                  simp only [go_sem]
                  refine hK _ _ fun nx => ?_; clear hK K; try clear kk
                  refine awp_ret ?_; refine nmx ?_
                  obtain hR := Option.some.inj hh
                  subst hR
                  exact ret_p2
                · intro i s h; exact h.elim
                · rintro s ⟨res_35, rfl, hb⟩
                  try dsimp only at hh
                  obtain hR := Option.some.inj hh
                  subst hR
                  refine nmx ?_
                  exact hb
      · intro i s h; exact h.elim
      · rintro s ⟨res_16, rfl, hb⟩
        try dsimp only at hh
        obtain hR := Option.some.inj hh
        subst hR
        refine nmx ?_
        exact hb
theorem node_formed_ok (n_1 : api_Node) (R : Bool) (hh : node_formed n_1 = some R) : PC Tryz.prog 95 [.agg [.str n_1.Kind, .str n_1.Text, .list 1 (n_1.Marks.map PV.str), .list 2 (n_1.Attrs.map api_Attr.pv), .list 5 (n_1.Kids.map api_Node.pv)]] (.bool R) := by
  rw [node_formed] at hh
  obtain ⟨kr, hh⟩ := lim_some hh
  exact (node_formed_grp kr) _ _ hh
theorem node_Depth_grp : ∀ kr : Nat, (∀ (n_1 : api_Node) (R : Int), node_Depth_k kr n_1 = some R → PC Tryz.prog 96 [.agg [.str n_1.Kind, .str n_1.Text, .list 1 (n_1.Marks.map PV.str), .list 2 (n_1.Attrs.map api_Attr.pv), .list 5 (n_1.Kids.map api_Node.pv)]] (.int .i64 R)) := by
  intro kr
  induction kr with
  | zero => exact (by intro n_1 R hh; rw [node_Depth_k] at hh; cases hh)
  | succ kr ih =>
    have ih_node_Depth := ih
    clear ih
    intro n_1 R hh
    rw [node_Depth_k] at hh
    refine start_node_Depth rfl ?_
    refine awp_first fun K kk hK => ?_
    simp only [go_sem]
    refine hK _ _ fun nx => ?_; clear hK K; try clear kk
    refine awp_seq ?_
    obtain ⟨istext_2, h1, hh⟩ := bind_ex hh
    refine awp_first fun K kk hK => ?_
    simp only [go_sem]
    refine step_call2 (node_isText_ok _ _ h1) (by (try simp only [go_sem]) <;> exact wkl) (by rfl) (by rfl) ?_
    simp only [go_sem]
    refine hK _ _ fun nx => ?_; clear hK K; try clear kk
    by_cases h2 : (istext_2) = true
    · rw [if_pos h2] at hh
      refine awp_true (by first | exact congrArg PV.bool h2 | rfl) ?_
      refine awp_first fun K kk hK => ?_
      simp only [go_sem]
      refine hK _ _ fun nx => ?_; clear hK K; try clear kk
      refine awp_ret ?_; refine nmx ?_
      obtain hR := Option.some.inj hh
      subst hR
      exact ret_p2
    · rw [if_neg h2] at hh
      replace h2 := Bool.eq_false_iff.mpr h2
      refine awp_false (by first | exact congrArg PV.bool h2 | rfl) ?_
      refine awp_skip ?_; refine nmx ?_
      refine awp_first fun K kk hK => ?_
      simp only [go_sem]
      refine hK _ _ fun nx => ?_; clear hK K; try clear kk
      refine awp_seq ?_
      refine awp_first fun K kk hK => ?_
      simp only [go_sem]
      refine hK _ _ fun nx => ?_; clear hK K; try clear kk
      obtain ⟨e0, f0, hh⟩ := bind_ex hh
      obtain ⟨hlen0, f0⟩ := chk_some f0
      refine awp_fragE (CutTo (fun s => ∃ deepest_11, deepest_11 = e0 ∧ ∃ (v_12 : Int) (v_13 : Bool) (nx : Nat), s = ⟨[(3, .int .i64 deepest_11), (9, .list 5 (n_1.Kids.map api_Node.pv)), (10, .int .i64 (n_1.Kids.length : Int)), (11, .int .i64 v_12), (12, .bool v_13)], [], nx⟩))
        (fun i s => False)
        (fun s => False) ?_ ?_ ?_ ?_
      · refine awp_block ?_
        refine awp_loopJ fun I hI => ?_
        have key : ∀ (suf pre : List api_Node) (v_6 : Int) (deepest_5 : Int), n_1.Kids = pre ++ suf → v_6 = (pre.length : Int) → node_Depth_l0 (node_Depth_k kr) suf v_6 deepest_5 = some e0 → ∀ (nx : Nat), I ⟨[(3, .int .i64 deepest_5), (9, .list 5 (n_1.Kids.map api_Node.pv)), (10, .int .i64 (n_1.Kids.length : Int)), (11, .int .i64 v_6)], [], nx⟩ := by
          intro suf
          induction suf with
          | nil =>
            intro pre v_6 deepest_5 hsplit hidx hh nx
            rw [node_Depth_l0] at hh
            refine hI _ ?_
            have h9 := walk_nil hsplit hidx
            refine awp_first fun K kk hK => ?_
            simp only [go_sem]
            refine hK _ _ fun nx => ?_; clear hK K; try clear kk
            refine awp_seq ?_
            refine awp_false (by first | exact congrArg PV.bool h9 | rfl) ?_
            refine awp_exit ?_; refine nmx ?_
            refine fragN ?_
            refine cut_id ?_
            refine ⟨_, (Option.some.inj hh), ?_⟩
            first | exact ⟨_, _, _, rfl⟩ | (simp only [api_Attr.pv_eq, api_Node.pv_eq, step_Step.pv_eq, diptychref11_Step.pv_eq, pvL, List.map_cons, List.map_nil, List.map_append, rune1]; exact ⟨_, _, _, rfl⟩) | (simp only [api_Attr.pv_eq, api_Node.pv_eq, step_Step.pv_eq, diptychref11_Step.pv_eq, pvL, List.map_cons, List.map_nil, List.map_append, rune1, h2, h9]; exact ⟨_, _, _, rfl⟩)
          | cons y_9 suf ih =>
            intro pre v_6 deepest_5 hsplit hidx hh nx
            rw [node_Depth_l0] at hh
            refine hI _ ?_
            obtain ⟨hl0a, hl0b, hl0d, hl0w, h9⟩ := walk_cons (f := api_Node.pv) hsplit hidx hlen0
            refine awp_first fun K kk hK => ?_
            simp only [go_sem]
            refine hK _ _ fun nx => ?_; clear hK K; try clear kk
            refine awp_seq ?_
            refine awp_true (by first | exact congrArg PV.bool h9 | rfl) ?_
            refine awp_skip ?_; refine nmx ?_
            refine awp_seq ?_
            refine awp_block ?_
            refine awp_first fun K kk hK => ?_
            simp only [go_sem, hl0a, hl0b, hl0d, hl0w]
            refine hK _ _ fun nx => ?_; clear hK K; try clear kk
            obtain ⟨depth_10, h10, hh⟩ := bind_ex hh
            refine awp_region fun K kk hK => ?_
            simp only [go_sem, hl0a, hl0b, hl0d, hl0w]
            refine step_call2 (ih_node_Depth _ _ h10) (by (try simp only [go_sem, hl0a, hl0b, hl0d, hl0w]) <;> exact wkl) (by rfl) (by rfl) ?_
            simp only [go_sem, hl0a, hl0b, hl0d, hl0w]
            refine hK _ _ fun nx => ?_; clear hK K; try clear kk
            refine nmx ?_
            refine awp_region fun K kk hK => ?_
            simp only [go_sem, hl0a, hl0b, hl0d, hl0w]
            refine hK _ _ fun nx => ?_; clear hK K; try clear kk
            refine nmx ?_
            have ih' := ih (pre ++ [y_9]) (v_6 + 1) _ (by rw [hsplit]; simp) (by simp [hidx]) hh nx
            refine cut_id ?_
            first | exact ih' | (simp only [api_Attr.pv_eq, api_Node.pv_eq, step_Step.pv_eq, diptychref11_Step.pv_eq, pvL, List.map_cons, List.map_nil, List.map_append, rune1] at ih' ⊢; exact ih') | (simp only [api_Attr.pv_eq, api_Node.pv_eq, step_Step.pv_eq, diptychref11_Step.pv_eq, pvL, List.map_cons, List.map_nil, List.map_append, rune1, h2, h9] at ih' ⊢; exact ih')
        exact key n_1.Kids [] _ _ rfl rfl f0 _
      · rintro s ⟨t, hless, deepest_11, rfl, v_12, v_13, nx, rfl⟩
        try dsimp only at hh
        refine nmy ?_
        first | (refine cut_less hless ?_; try refine cut_awp ?_) | refine frag_less hless ?_ | refine body_less hless ?_
        refine awp_first fun K kk hK => ?_
        simp only [go_sem]
        refine hK _ _ fun nx => ?_; clear hK K; try clear kk
        refine awp_ret ?_; refine nmx ?_
        obtain hR := Option.some.inj hh
        subst hR
        exact ret_p2
      · intro i s h; exact h.elim
      · intro s h; exact h.elim
theorem node_Depth_ok (n_1 : api_Node) (R : Int) (hh : node_Depth n_1 = some R) : PC Tryz.prog 96 [.agg [.str n_1.Kind, .str n_1.Text, .list 1 (n_1.Marks.map PV.str), .list 2 (n_1.Attrs.map api_Attr.pv), .list 5 (n_1.Kids.map api_Node.pv)]] (.int .i64 R) := by
  rw [node_Depth] at hh
  obtain ⟨kr, hh⟩ := lim_some hh
  exact (node_Depth_grp kr) _ _ hh
theorem node_Check_ok (n_1 : api_Node) (R : Int) (hh : node_Check n_1 = some R) : PC Tryz.prog 51 [.agg [.str n_1.Kind, .str n_1.Text, .list 1 (n_1.Marks.map PV.str), .list 2 (n_1.Attrs.map api_Attr.pv), .list 5 (n_1.Kids.map api_Node.pv)]] (.int .i64 R) := by
  rw [node_Check] at hh
  refine start_node_Check rfl ?_
  refine awp_first fun K kk hK => ?_
  simp only [go_sem]
  refine hK _ _ fun nx => ?_; clear hK K; try clear kk
  refine awp_seq ?_
  refine awp_block ?_
  obtain ⟨formed_2, h1, hh⟩ := bind_ex hh
  refine awp_first fun K kk hK => ?_
  simp only [go_sem]
  refine step_call2 (node_formed_ok _ _ h1) (by (try simp only [go_sem]) <;> exact wkl) (by rfl) (by rfl) ?_
  simp only [go_sem]
  refine hK _ _ fun nx => ?_; clear hK K; try clear kk
  by_cases h2 : (!formed_2) = true
  · rw [if_pos h2] at hh
    refine awp_true (by first | exact congrArg PV.bool h2 | rfl) ?_
    refine awp_first fun K kk hK => ?_
    simp only [go_sem]
    refine hK _ _ fun nx => ?_; clear hK K; try clear kk
    refine awp_ret ?_; refine nmx ?_
    obtain hR := Option.some.inj hh
    subst hR
    exact ret_p2
  · rw [if_neg h2] at hh
    replace h2 := Bool.eq_false_iff.mpr h2
    refine awp_false (by first | exact congrArg PV.bool h2 | rfl) ?_
    obtain ⟨depth_3, h3, hh⟩ := bind_ex hh
    refine awp_first fun K kk hK => ?_
    simp only [go_sem]
    refine step_call2 (node_Depth_ok _ _ h3) (by (try simp only [go_sem]) <;> exact wkl) (by rfl) (by rfl) ?_
    simp only [go_sem]
    refine hK _ _ fun nx => ?_; clear hK K; try clear kk
    by_cases h4 : (decide (depth_3 > (40 : Int))) = true
    · rw [if_pos h4] at hh
      refine awp_true (by first | exact congrArg PV.bool h4 | rfl) ?_
      refine awp_first fun K kk hK => ?_
      simp only [go_sem]
      refine hK _ _ fun nx => ?_; clear hK K; try clear kk
      refine awp_ret ?_; refine nmx ?_
      obtain hR := Option.some.inj hh
      subst hR
      exact ret_p2
    · rw [if_neg h4] at hh
      replace h4 := Bool.eq_false_iff.mpr h4
      refine awp_false (by first | exact congrArg PV.bool h4 | rfl) ?_
      obtain ⟨size_4, h5, hh⟩ := bind_ex hh
      refine awp_first fun K kk hK => ?_
      simp only [go_sem]
      refine step_call2 (node_Size_ok _ _ h5) (by (try simp only [go_sem]) <;> exact wkl) (by rfl) (by rfl) ?_
      simp only [go_sem]
      refine hK _ _ fun nx => ?_; clear hK K; try clear kk
      by_cases h6 : (decide (size_4 > (4000 : Int))) = true
      · rw [if_pos h6] at hh
        refine awp_true (by first | exact congrArg PV.bool h6 | rfl) ?_
        refine awp_first fun K kk hK => ?_
        simp only [go_sem]
        refine hK _ _ fun nx => ?_; clear hK K; try clear kk
        refine awp_ret ?_; refine nmx ?_
        obtain hR := Option.some.inj hh
        subst hR
        exact ret_p2
      · rw [if_neg h6] at hh
        replace h6 := Bool.eq_false_iff.mpr h6
        refine awp_false (by first | exact congrArg PV.bool h6 | rfl) ?_
        refine awp_skip ?_; refine nmx ?_
        refine awp_first fun K kk hK => ?_
        simp only [go_sem]
        refine hK _ _ fun nx => ?_; clear hK K; try clear kk
        refine awp_ret ?_; refine nmx ?_
        obtain hR := Option.some.inj hh
        subst hR
        exact ret_p2
theorem step_Right_ok (s_1 : step_Step) (R : Bool) (hh : step_Right s_1 = some R) : PC Tryz.prog 19 [.agg [.int .u8 s_1.Kind, .int .i64 s_1.From, .int .i64 s_1.To, .list 5 (s_1.Nodes.map api_Node.pv), .str s_1.Name, .str s_1.Value]] (.bool R) := by
  rw [step_Right] at hh
  refine start_step_Right rfl ?_
  refine awp_first fun K kk hK => ?_
  simp only [go_sem]
  refine hK _ _ fun nx => ?_; clear hK K; try clear kk
  refine awp_seq ?_
  obtain ⟨e0, f0, hh⟩ := bind_ex hh
  refine awp_frag (fun s => ∃ span_2, span_2 = e0 ∧ ∃ (nx : Nat) (g1 : Nat), s = ⟨[(1, .box 1 g1 0), (3, .bool span_2)], [(1, g1, .var 31 [.int .u8 s_1.Kind, .int .i64 s_1.From, .int .i64 s_1.To, .list 5 (s_1.Nodes.map api_Node.pv), .str s_1.Name, .str s_1.Value])], nx⟩)
    (fun i s => False)
    (fun s => False) ?_ ?_ ?_ ?_
  · have hh := f0
    by_cases h1 : (decide (s_1.From ≥ (0 : Int))) = true
    · rw [if_pos h1] at hh
      by_cases h2 : (decide (s_1.From ≤ s_1.To)) = true
      · rw [if_pos h2] at hh
        refine awp_region fun K kk hK => ?_
        simp only [go_sem, h1, of_decide_eq_true h1, h1, of_decide_eq_true h1, h2, of_decide_eq_true h2, h2, of_decide_eq_true h2]
        (repeat refine sd ?_)
        refine hK _ _ fun nx => ?_; clear hK K; try clear kk
        refine nmx ?_
        refine fragN ?_
        refine cut_id ?_
        refine ⟨_, (Option.some.inj hh), ?_⟩
        first | exact ⟨_, _, rfl⟩ | (simp only [api_Attr.pv_eq, api_Node.pv_eq, step_Step.pv_eq, diptychref11_Step.pv_eq, pvL, List.map_cons, List.map_nil, List.map_append, rune1]; exact ⟨_, _, rfl⟩) | (simp only [api_Attr.pv_eq, api_Node.pv_eq, step_Step.pv_eq, diptychref11_Step.pv_eq, pvL, List.map_cons, List.map_nil, List.map_append, rune1, h1, h2]; exact ⟨_, _, rfl⟩)
      · rw [if_neg h2] at hh
        replace h2 := Bool.eq_false_iff.mpr h2
        refine awp_region fun K kk hK => ?_
        simp only [go_sem, h1, of_decide_eq_true h1, h1, of_decide_eq_true h1, h2, of_decide_eq_false h2, h2, of_decide_eq_false h2]
        (repeat refine sd ?_)
        refine hK _ _ fun nx => ?_; clear hK K; try clear kk
        refine nmx ?_
        refine fragN ?_
        refine cut_id ?_
        refine ⟨_, (Option.some.inj hh), ?_⟩
        first | exact ⟨_, _, rfl⟩ | (simp only [api_Attr.pv_eq, api_Node.pv_eq, step_Step.pv_eq, diptychref11_Step.pv_eq, pvL, List.map_cons, List.map_nil, List.map_append, rune1]; exact ⟨_, _, rfl⟩) | (simp only [api_Attr.pv_eq, api_Node.pv_eq, step_Step.pv_eq, diptychref11_Step.pv_eq, pvL, List.map_cons, List.map_nil, List.map_append, rune1, h1, h2]; exact ⟨_, _, rfl⟩)
    · rw [if_neg h1] at hh
      replace h1 := Bool.eq_false_iff.mpr h1
      refine awp_region fun K kk hK => ?_
      simp only [go_sem, h1, of_decide_eq_false h1, h1, of_decide_eq_false h1]
      (repeat refine sd ?_)
      refine hK _ _ fun nx => ?_; clear hK K; try clear kk
      refine nmx ?_
      refine fragN ?_
      refine cut_id ?_
      refine ⟨_, (Option.some.inj hh), ?_⟩
      first | exact ⟨_, _, rfl⟩ | (simp only [api_Attr.pv_eq, api_Node.pv_eq, step_Step.pv_eq, diptychref11_Step.pv_eq, pvL, List.map_cons, List.map_nil, List.map_append, rune1]; exact ⟨_, _, rfl⟩) | (simp only [api_Attr.pv_eq, api_Node.pv_eq, step_Step.pv_eq, diptychref11_Step.pv_eq, pvL, List.map_cons, List.map_nil, List.map_append, rune1, h1]; exact ⟨_, _, rfl⟩)
  · rintro s ⟨span_2, rfl, nx, g1, rfl⟩
    try dsimp only at hh
    refine awp_seq ?_
    refine awp_first fun K kk hK => ?_
    simp only [go_sem]
    refine hK _ _ fun nx => ?_; clear hK K; try clear kk
    refine awp_block ?_
    refine awp_first fun K kk hK => ?_
    simp only [go_sem]
    refine hK _ _ fun nx => ?_; clear hK K; try clear kk
    by_cases h3 : (s_1.Kind == (114 : Int)) = true
    · rw [if_pos h3] at hh
      refine awp_true (by first | exact congrArg PV.bool h3 | rfl) ?_
      obtain ⟨check_3, h4, hh⟩ := bind_ex hh
      refine awp_first fun K kk hK => ?_
      simp only [go_sem]
      refine step_call2 (node_Check_ok _ _ h4) (by (try simp only [go_sem]) <;> exact wkl) (by rfl) (by rfl) ?_
      simp only [go_sem]
      refine hK _ _ fun nx => ?_; clear hK K; try clear kk
      by_cases h5 : (span_2) = true
      · rw [if_pos h5] at hh
        by_cases h6 : (check_3 != (2 : Int)) = true
        · rw [if_pos h6] at hh
          obtain ⟨h7, hh⟩ := chk_some hh
          refine awp_first fun K kk hK => ?_
          simp only [go_sem, h5, h5, h6, h7, h6]
          (repeat refine sd ?_)
          refine hK _ _ fun nx => ?_; clear hK K; try clear kk
          refine awp_ret ?_; refine nmx ?_
          obtain hR := Option.some.inj hh
          subst hR
          exact ret_p2
        · rw [if_neg h6] at hh
          replace h6 := Bool.eq_false_iff.mpr h6
          refine awp_first fun K kk hK => ?_
          simp only [go_sem, h5, h5, h6, h6]
          (repeat refine sd ?_)
          refine hK _ _ fun nx => ?_; clear hK K; try clear kk
          refine awp_ret ?_; refine nmx ?_
          obtain hR := Option.some.inj hh
          subst hR
          exact ret_p2
      · rw [if_neg h5] at hh
        replace h5 := Bool.eq_false_iff.mpr h5
        refine awp_first fun K kk hK => ?_
        simp only [go_sem, h5, h5]
        (repeat refine sd ?_)
        refine hK _ _ fun nx => ?_; clear hK K; try clear kk
        refine awp_ret ?_; refine nmx ?_
        obtain hR := Option.some.inj hh
        subst hR
        exact ret_p2
    · rw [if_neg h3] at hh
      replace h3 := Bool.eq_false_iff.mpr h3
      refine awp_false (by first | exact congrArg PV.bool h3 | rfl) ?_
      refine awp_first fun K kk hK => ?_
      simp only [go_sem]
      refine hK _ _ fun nx => ?_; clear hK K; try clear kk
      by_cases h8 : (s_1.Kind == (97 : Int)) = true
      · rw [if_pos h8] at hh
        refine awp_true (by first | exact congrArg PV.bool h8 | rfl) ?_
        by_cases h9 : (decide (s_1.From ≥ (-1 : Int))) = true
        · rw [if_pos h9] at hh
          by_cases h10 : (decide (s_1.From ≤ (1048576 : Int))) = true
          · rw [if_pos h10] at hh
            by_cases h11 : (s_1.To == (0 : Int)) = true
            · rw [if_pos h11] at hh
              obtain ⟨name_4, h12, hh⟩ := bind_ex hh
              by_cases h13 : (name_4) = true
              · rw [if_pos h13] at hh
                obtain ⟨value_5, h14, hh⟩ := bind_ex hh
                by_cases h15 : (value_5) = true
                · rw [if_pos h15] at hh
                  refine awp_first fun K kk hK => ?_
                  simp only [go_sem, h9, of_decide_eq_true h9, h9, of_decide_eq_true h9, h10, of_decide_eq_true h10, h10, of_decide_eq_true h10, h11, h11, h13, h13, h15, h15]
                  (repeat refine sd ?_)
                  refine step_call2 (node_Name_ok _ _ h12) (by (try simp only [go_sem, h9, of_decide_eq_true h9, h9, of_decide_eq_true h9, h10, of_decide_eq_true h10, h10, of_decide_eq_true h10, h11, h11, h13, h13, h15, h15]) <;> exact wkl) (by rfl) (by rfl) ?_
                  simp only [go_sem, h9, of_decide_eq_true h9, h9, of_decide_eq_true h9, h10, of_decide_eq_true h10, h10, of_decide_eq_true h10, h11, h11, h13, h13, h15, h15]
                  (repeat refine sd ?_)
                  refine step_call2 (node_Value_ok _ _ h14) (by (try simp only [go_sem, h9, of_decide_eq_true h9, h9, of_decide_eq_true h9, h10, of_decide_eq_true h10, h10, of_decide_eq_true h10, h11, h11, h13, h13, h15, h15]) <;> exact wkl) (by rfl) (by rfl) ?_
                  simp only [go_sem, h9, of_decide_eq_true h9, h9, of_decide_eq_true h9, h10, of_decide_eq_true h10, h10, of_decide_eq_true h10, h11, h11, h13, h13, h15, h15]
                  (repeat refine sd ?_)
                  refine hK _ _ fun nx => ?_; clear hK K; try clear kk
                  refine awp_ret ?_; refine nmx ?_
                  obtain hR := Option.some.inj hh
                  subst hR
                  exact ret_p2
                · rw [if_neg h15] at hh
                  replace h15 := Bool.eq_false_iff.mpr h15
                  refine awp_first fun K kk hK => ?_
                  simp only [go_sem, h9, of_decide_eq_true h9, h9, of_decide_eq_true h9, h10, of_decide_eq_true h10, h10, of_decide_eq_true h10, h11, h11, h13, h13, h15, h15]
                  (repeat refine sd ?_)
                  refine step_call2 (node_Name_ok _ _ h12) (by (try simp only [go_sem, h9, of_decide_eq_true h9, h9, of_decide_eq_true h9, h10, of_decide_eq_true h10, h10, of_decide_eq_true h10, h11, h11, h13, h13, h15, h15]) <;> exact wkl) (by rfl) (by rfl) ?_
                  simp only [go_sem, h9, of_decide_eq_true h9, h9, of_decide_eq_true h9, h10, of_decide_eq_true h10, h10, of_decide_eq_true h10, h11, h11, h13, h13, h15, h15]
                  (repeat refine sd ?_)
                  refine step_call2 (node_Value_ok _ _ h14) (by (try simp only [go_sem, h9, of_decide_eq_true h9, h9, of_decide_eq_true h9, h10, of_decide_eq_true h10, h10, of_decide_eq_true h10, h11, h11, h13, h13, h15, h15]) <;> exact wkl) (by rfl) (by rfl) ?_
                  simp only [go_sem, h9, of_decide_eq_true h9, h9, of_decide_eq_true h9, h10, of_decide_eq_true h10, h10, of_decide_eq_true h10, h11, h11, h13, h13, h15, h15]
                  (repeat refine sd ?_)
                  refine hK _ _ fun nx => ?_; clear hK K; try clear kk
                  refine awp_ret ?_; refine nmx ?_
                  obtain hR := Option.some.inj hh
                  subst hR
                  exact ret_p2
              · rw [if_neg h13] at hh
                replace h13 := Bool.eq_false_iff.mpr h13
                refine awp_first fun K kk hK => ?_
                simp only [go_sem, h9, of_decide_eq_true h9, h9, of_decide_eq_true h9, h10, of_decide_eq_true h10, h10, of_decide_eq_true h10, h11, h11, h13, h13]
                (repeat refine sd ?_)
                refine step_call2 (node_Name_ok _ _ h12) (by (try simp only [go_sem, h9, of_decide_eq_true h9, h9, of_decide_eq_true h9, h10, of_decide_eq_true h10, h10, of_decide_eq_true h10, h11, h11, h13, h13]) <;> exact wkl) (by rfl) (by rfl) ?_
                simp only [go_sem, h9, of_decide_eq_true h9, h9, of_decide_eq_true h9, h10, of_decide_eq_true h10, h10, of_decide_eq_true h10, h11, h11, h13, h13]
                (repeat refine sd ?_)
                refine hK _ _ fun nx => ?_; clear hK K; try clear kk
                refine awp_ret ?_; refine nmx ?_
                obtain hR := Option.some.inj hh
                subst hR
                exact ret_p2
            · rw [if_neg h11] at hh
              replace h11 := Bool.eq_false_iff.mpr h11
              refine awp_first fun K kk hK => ?_
              simp only [go_sem, h9, of_decide_eq_true h9, h9, of_decide_eq_true h9, h10, of_decide_eq_true h10, h10, of_decide_eq_true h10, h11, h11]
              (repeat refine sd ?_)
              refine hK _ _ fun nx => ?_; clear hK K; try clear kk
              refine awp_ret ?_; refine nmx ?_
              obtain hR := Option.some.inj hh
              subst hR
              exact ret_p2
          · rw [if_neg h10] at hh
            replace h10 := Bool.eq_false_iff.mpr h10
            refine awp_first fun K kk hK => ?_
            simp only [go_sem, h9, of_decide_eq_true h9, h9, of_decide_eq_true h9, h10, of_decide_eq_false h10, h10, of_decide_eq_false h10]
            (repeat refine sd ?_)
            refine hK _ _ fun nx => ?_; clear hK K; try clear kk
            refine awp_ret ?_; refine nmx ?_
            obtain hR := Option.some.inj hh
            subst hR
            exact ret_p2
        · rw [if_neg h9] at hh
          replace h9 := Bool.eq_false_iff.mpr h9
          refine awp_first fun K kk hK => ?_
          simp only [go_sem, h9, of_decide_eq_false h9, h9, of_decide_eq_false h9]
          (repeat refine sd ?_)
          refine hK _ _ fun nx => ?_; clear hK K; try clear kk
          refine awp_ret ?_; refine nmx ?_
          obtain hR := Option.some.inj hh
          subst hR
          exact ret_p2
      · rw [if_neg h8] at hh
        replace h8 := Bool.eq_false_iff.mpr h8
        refine awp_false (by first | exact congrArg PV.bool h8 | rfl) ?_
        refine awp_seq ?_
        refine awp_first fun K kk hK => ?_
        simp only [go_sem]
        refine hK _ _ fun nx => ?_; clear hK K; try clear kk
        by_cases h16 : (s_1.Kind == (109 : Int)) = true
        · rw [if_pos h16] at hh
          refine awp_true (by first | exact congrArg PV.bool h16 | rfl) ?_
          refine awp_skip ?_; refine nmx ?_
          refine awp_true (by first | exact congrArg PV.bool h16 | rfl) ?_
          by_cases h17 : (span_2) = true
          · rw [if_pos h17] at hh
            obtain ⟨name_6, h18, hh⟩ := bind_ex hh
            by_cases h19 : (name_6) = true
            · rw [if_pos h19] at hh
              by_cases h20 : ((s_1.Nodes.length : Int) == (0 : Int)) = true
              · rw [if_pos h20] at hh
                refine awp_first fun K kk hK => ?_
                simp only [go_sem, h17, h17, h19, h19, h20, h20]
                (repeat refine sd ?_)
                refine step_call2 (node_Name_ok _ _ h18) (by (try simp only [go_sem, h17, h17, h19, h19, h20, h20]) <;> exact wkl) (by rfl) (by rfl) ?_
                simp only [go_sem, h17, h17, h19, h19, h20, h20]
                (repeat refine sd ?_)
                refine hK _ _ fun nx => ?_; clear hK K; try clear kk
                refine awp_ret ?_; refine nmx ?_
                obtain hR := Option.some.inj hh
                subst hR
                exact ret_p2
              · rw [if_neg h20] at hh
                replace h20 := Bool.eq_false_iff.mpr h20
                refine awp_first fun K kk hK => ?_
                simp only [go_sem, h17, h17, h19, h19, h20, h20]
                (repeat refine sd ?_)
                refine step_call2 (node_Name_ok _ _ h18) (by (try simp only [go_sem, h17, h17, h19, h19, h20, h20]) <;> exact wkl) (by rfl) (by rfl) ?_
                simp only [go_sem, h17, h17, h19, h19, h20, h20]
                (repeat refine sd ?_)
                refine hK _ _ fun nx => ?_; clear hK K; try clear kk
                refine awp_ret ?_; refine nmx ?_
                obtain hR := Option.some.inj hh
                subst hR
                exact ret_p2
            · rw [if_neg h19] at hh
              replace h19 := Bool.eq_false_iff.mpr h19
              refine awp_first fun K kk hK => ?_
              simp only [go_sem, h17, h17, h19, h19]
              (repeat refine sd ?_)
              refine step_call2 (node_Name_ok _ _ h18) (by (try simp only [go_sem, h17, h17, h19, h19]) <;> exact wkl) (by rfl) (by rfl) ?_
              simp only [go_sem, h17, h17, h19, h19]
              (repeat refine sd ?_)
              refine hK _ _ fun nx => ?_; clear hK K; try clear kk
              refine awp_ret ?_; refine nmx ?_
              obtain hR := Option.some.inj hh
              subst hR
              exact ret_p2
          · rw [if_neg h17] at hh
            replace h17 := Bool.eq_false_iff.mpr h17
            refine awp_first fun K kk hK => ?_
            simp only [go_sem, h17, h17]
            (repeat refine sd ?_)
            refine hK _ _ fun nx => ?_; clear hK K; try clear kk
            refine awp_ret ?_; refine nmx ?_
            obtain hR := Option.some.inj hh
            subst hR
            exact ret_p2
        · rw [if_neg h16] at hh
          replace h16 := Bool.eq_false_iff.mpr h16
          refine awp_false (by first | exact congrArg PV.bool h16 | rfl) ?_
          refine awp_region fun K kk hK => ?_
          simp only [go_sem]
          refine hK _ _ fun nx => ?_; clear hK K; try clear kk
          refine nmx ?_
          by_cases h21 : (s_1.Kind == (117 : Int)) = true
          · rw [if_pos h21] at hh
            refine awp_true (by first | exact congrArg PV.bool h21 | rfl) ?_
            by_cases h22 : (span_2) = true
            · rw [if_pos h22] at hh
              obtain ⟨name_7, h23, hh⟩ := bind_ex hh
              by_cases h24 : (name_7) = true
              · rw [if_pos h24] at hh
                by_cases h25 : ((s_1.Nodes.length : Int) == (0 : Int)) = true
                · rw [if_pos h25] at hh
                  refine awp_first fun K kk hK => ?_
                  simp only [go_sem, h22, h22, h24, h24, h25, h25]
                  (repeat refine sd ?_)
                  refine step_call2 (node_Name_ok _ _ h23) (by (try simp only [go_sem, h22, h22, h24, h24, h25, h25]) <;> exact wkl) (by rfl) (by rfl) ?_
                  simp only [go_sem, h22, h22, h24, h24, h25, h25]
                  (repeat refine sd ?_)
                  refine hK _ _ fun nx => ?_; clear hK K; try clear kk
                  refine awp_ret ?_; refine nmx ?_
                  obtain hR := Option.some.inj hh
                  subst hR
                  exact ret_p2
                · rw [if_neg h25] at hh
                  replace h25 := Bool.eq_false_iff.mpr h25
                  refine awp_first fun K kk hK => ?_
                  simp only [go_sem, h22, h22, h24, h24, h25, h25]
                  (repeat refine sd ?_)
                  refine step_call2 (node_Name_ok _ _ h23) (by (try simp only [go_sem, h22, h22, h24, h24, h25, h25]) <;> exact wkl) (by rfl) (by rfl) ?_
                  simp only [go_sem, h22, h22, h24, h24, h25, h25]
                  (repeat refine sd ?_)
                  refine hK _ _ fun nx => ?_; clear hK K; try clear kk
                  refine awp_ret ?_; refine nmx ?_
                  obtain hR := Option.some.inj hh
                  subst hR
                  exact ret_p2
              · rw [if_neg h24] at hh
                replace h24 := Bool.eq_false_iff.mpr h24
                refine awp_first fun K kk hK => ?_
                simp only [go_sem, h22, h22, h24, h24]
                (repeat refine sd ?_)
                refine step_call2 (node_Name_ok _ _ h23) (by (try simp only [go_sem, h22, h22, h24, h24]) <;> exact wkl) (by rfl) (by rfl) ?_
                simp only [go_sem, h22, h22, h24, h24]
                (repeat refine sd ?_)
                refine hK _ _ fun nx => ?_; clear hK K; try clear kk
                refine awp_ret ?_; refine nmx ?_
                obtain hR := Option.some.inj hh
                subst hR
                exact ret_p2
            · rw [if_neg h22] at hh
              replace h22 := Bool.eq_false_iff.mpr h22
              refine awp_first fun K kk hK => ?_
              simp only [go_sem, h22, h22]
              (repeat refine sd ?_)
              refine hK _ _ fun nx => ?_; clear hK K; try clear kk
              refine awp_ret ?_; refine nmx ?_
              obtain hR := Option.some.inj hh
              subst hR
              exact ret_p2
          · rw [if_neg h21] at hh
            replace h21 := Bool.eq_false_iff.mpr h21
            refine awp_false (by first | exact congrArg PV.bool h21 | rfl) ?_
            refine awp_skip ?_; refine nmx ?_
            refine awp_first fun K kk hK => ?_
            simp only [go_sem]
            refine hK _ _ fun nx => ?_; clear hK K; try clear kk
            refine awp_ret ?_; refine nmx ?_
            obtain hR := Option.some.inj hh
            subst hR
            exact ret_p2
  · intro i s h; exact h.elim
  · intro s h; exact h.elim
theorem strings_Join_ok (l : (List Str)) (sep : Str) (R : Str) (hh : strings_Join l sep = some R) : PC Tryz.prog 80 [.list 1 (l.map PV.str), .str sep] (.str R) := by
  rw [strings_Join] at hh
  exact lib_join ⟨_, Tryz.func80, by kernel_rfl, by kernel_rfl⟩ Tryz.strings_Join_none Tryz.strings_Join l sep R hh
theorem strings_ReplaceAll_ok (s : Str) (old : Str) (new : Str) (R : Str) (hh : strings_ReplaceAll s old new = some R) : PC Tryz.prog 119 [.str s, .str old, .str new] (.str R) := by
  rw [strings_ReplaceAll] at hh
  exact lib_replaceAll ⟨_, Tryz.func119, by kernel_rfl, by kernel_rfl⟩ (fun _ h => gw_max h) Tryz.strings_ReplaceAll s old new R hh
theorem codec_Quote_ok (s_1 : Str) (R : Str) (hh : codec_Quote s_1 = some R) : PC Tryz.prog 81 [.str s_1] (.str R) := by
  rw [codec_Quote] at hh
  refine start_codec_Quote rfl ?_
  refine awp_first fun K kk hK => ?_
  simp only [go_sem]
  refine hK _ _ fun nx => ?_; clear hK K; try clear kk
  obtain ⟨replac_2, h1, hh⟩ := bind_ex hh
  refine awp_first fun K kk hK => ?_
  simp only [go_sem]
  refine step_call2 (strings_ReplaceAll_ok _ _ _ _ h1) (by (try simp only [go_sem]) <;> exact wkl) (by rfl) (by rfl) ?_
  simp only [go_sem]
  refine hK _ _ fun nx => ?_; clear hK K; try clear kk
  obtain ⟨replac_3, h2, hh⟩ := bind_ex hh
  obtain ⟨h3, hh⟩ := chk_some hh
  obtain ⟨h4, hh⟩ := chk_some hh
  refine awp_first fun K kk hK => ?_
  simp only [go_sem, h3, h4]
  (repeat refine sd ?_)
  refine step_call2 (strings_ReplaceAll_ok _ _ _ _ h2) (by (try simp only [go_sem, h3, h4]) <;> exact wkl) (by rfl) (by rfl) ?_
  simp only [go_sem, h3, h4]
  (repeat refine sd ?_)
  refine hK _ _ fun nx => ?_; clear hK K; try clear kk
  refine awp_ret ?_; refine nmx ?_
  obtain hR := Option.some.inj hh
  subst hR
  exact ret_p2

end Go.Proofs.YtclohbgnaopjfaaGreatDoor
