/- What the functions answer, the program answers (2). -/
import Derived.Test.YtpjdafhmneiohaaDoorAgC
import Derived.Test.YtpjdafhmneiohaaDoorAgF
import Derived.Test.YtpjdafhmneiohaaDoorAgK0
import Derived.Test.YtpjdafhmneiohaaDoorAgK1
namespace Go.Proofs.YtpjdafhmneiohaaDoor
set_option linter.unusedSimpArgs false
set_option linter.unusedVariables false
open Go
set_option maxRecDepth 100000

theorem slices_EqualFunc_api_Node_node_Same_grp : ∀ kr : Nat, (∀ (s1_1 : (List api_Node)) (s2_2 : (List api_Node)) (R : Bool), slices_EqualFunc_api_Node_node_Same_k kr s1_1 s2_2 = some R → PC Tryd.prog 62 [.list 5 (s1_1.map api_Node.pv), .list 5 (s2_2.map api_Node.pv), .fn 17 []] (.bool R)) ∧
    (∀ (a_1 : api_Node) (b_2 : api_Node) (R : Bool), node_Same_k kr a_1 b_2 = some R → PC Tryd.prog 17 [.agg [.str a_1.Kind, .str a_1.Text, .list 1 (a_1.Marks.map PV.str), .list 2 (a_1.Attrs.map api_Attr.pv), .list 5 (a_1.Kids.map api_Node.pv)], .agg [.str b_2.Kind, .str b_2.Text, .list 1 (b_2.Marks.map PV.str), .list 2 (b_2.Attrs.map api_Attr.pv), .list 5 (b_2.Kids.map api_Node.pv)]] (.bool R)) := by
  intro kr
  induction kr with
  | zero => exact ⟨(by intro s1_1 s2_2 R hh; rw [slices_EqualFunc_api_Node_node_Same_k] at hh; cases hh), (by intro a_1 b_2 R hh; rw [node_Same_k] at hh; cases hh)⟩
  | succ kr ih =>
    obtain ⟨ih_slices_EqualFunc_api_Node_node_Same, ih_node_Same⟩ := ih
    refine ⟨?_, ?_⟩
    · intro s1_1 s2_2 R hh
      rw [slices_EqualFunc_api_Node_node_Same_k] at hh
      refine start_slices_EqualFunc_api_Node_node_Same rfl ?_
      refine awp_first fun K kk hK => ?_
      simp only [go_sem]
      refine hK _ _ fun nx => ?_; clear hK K; try clear kk
      refine awp_seq ?_
      refine awp_first fun K kk hK => ?_
      simp only [go_sem]
      refine hK _ _ fun nx => ?_; clear hK K; try clear kk
      by_cases h1 : ((s1_1.length : Int) != (s2_2.length : Int)) = true
      · rw [if_pos h1] at hh
        refine awp_true (by first | exact congrArg PV.bool h1 | rfl) ?_
        refine awp_first fun K kk hK => ?_
        simp only [go_sem]
        refine hK _ _ fun nx => ?_; clear hK K; try clear kk
        refine awp_ret ?_; refine nmx ?_
        obtain hR := Option.some.inj hh
        subst hR
        exact ret_p2
      · rw [if_neg h1] at hh
        replace h1 := Bool.eq_false_iff.mpr h1
        refine awp_false (by first | exact congrArg PV.bool h1 | rfl) ?_
        refine awp_skip ?_; refine nmx ?_
        refine awp_seq ?_
        refine awp_first fun K kk hK => ?_
        simp only [go_sem]
        refine hK _ _ fun nx => ?_; clear hK K; try clear kk
        obtain ⟨e0, f0, hh⟩ := bind_ex hh
        obtain ⟨hlen0, f0⟩ := chk_some f0
        refine awp_fragE (CutTo (fun s => .inr () = e0 ∧ ∃ (v_14 : Int) (v_15 : Bool) (nx : Nat), s = ⟨[(1, .list 5 (s2_2.map api_Node.pv)), (2, .fn 17 []), (15, .list 5 (s1_1.map api_Node.pv)), (16, .int .i64 (s1_1.length : Int)), (17, .int .i64 v_14), (18, .bool v_15)], [], nx⟩))
          (fun i s => False)
          (fun s => ∃ res_13, .inl res_13 = e0 ∧ bodyR Tryd.prog [.tmp 6] (.bool res_13) [] .ret s) ?_ ?_ ?_ ?_
        · refine awp_block ?_
          refine awp_loopJ fun I hI => ?_
          have key : ∀ (suf pre : List api_Node) (v_6 : Int), s1_1 = pre ++ suf → v_6 = (pre.length : Int) → slices_EqualFunc_api_Node_node_Same_l0 s2_2 (node_Same_k kr) suf v_6 = some e0 → ∀ (nx : Nat), I ⟨[(1, .list 5 (s2_2.map api_Node.pv)), (2, .fn 17 []), (15, .list 5 (s1_1.map api_Node.pv)), (16, .int .i64 (s1_1.length : Int)), (17, .int .i64 v_6)], [], nx⟩ := by
            intro suf
            induction suf with
            | nil =>
              intro pre v_6 hsplit hidx hh nx
              rw [slices_EqualFunc_api_Node_node_Same_l0] at hh
              refine hI _ ?_
              have h12 := walk_nil hsplit hidx
              refine awp_first fun K kk hK => ?_
              simp only [go_sem]
              refine hK _ _ fun nx => ?_; clear hK K; try clear kk
              refine awp_seq ?_
              refine awp_false (by first | exact congrArg PV.bool h12 | rfl) ?_
              refine awp_exit ?_; refine nmx ?_
              refine fragN ?_
              refine cut_id ?_
              refine ⟨(Option.some.inj hh), ?_⟩
              first | exact ⟨_, _, _, rfl⟩ | (simp only [diptychlaw18_Cell.pv_eq, api_Attr.pv_eq, api_Node.pv_eq, step_Step.pv_eq, diff_change.pv_eq, maps_Range.pv_eq, pvL, List.map_cons, List.map_nil, List.map_append, rune1]; exact ⟨_, _, _, rfl⟩) | (simp only [diptychlaw18_Cell.pv_eq, api_Attr.pv_eq, api_Node.pv_eq, step_Step.pv_eq, diff_change.pv_eq, maps_Range.pv_eq, pvL, List.map_cons, List.map_nil, List.map_append, rune1, h1, h12]; exact ⟨_, _, _, rfl⟩)
            | cons y_10 suf ih =>
              intro pre v_6 hsplit hidx hh nx
              rw [slices_EqualFunc_api_Node_node_Same_l0] at hh
              refine hI _ ?_
              obtain ⟨hl0a, hl0b, hl0d, hl0w, h12⟩ := walk_cons (f := api_Node.pv) hsplit hidx hlen0
              refine awp_first fun K kk hK => ?_
              simp only [go_sem]
              refine hK _ _ fun nx => ?_; clear hK K; try clear kk
              refine awp_seq ?_
              refine awp_true (by first | exact congrArg PV.bool h12 | rfl) ?_
              refine awp_skip ?_; refine nmx ?_
              refine awp_seq ?_
              refine awp_block ?_
              refine awp_first fun K kk hK => ?_
              simp only [go_sem, hl0a, hl0b, hl0d, hl0w]
              refine hK _ _ fun nx => ?_; clear hK K; try clear kk
              obtain ⟨x_11, h13, hh⟩ := bind_ex hh
              obtain ⟨h13a, h13b, h13c⟩ := rd_some h13
              have h13d := rd_get (f := api_Node.pv) h13c
              have h13f := rd_more (f := api_Node.pv) h13c
              try simp only [Int.toNat_natCast, Int.reduceToNat] at h13d h13f
              refine awp_first fun K kk hK => ?_
              simp only [go_sem, h13a, h13b, h13d, h13f.1, h13f.2, hl0a, hl0b, hl0d, hl0w]
              (repeat refine sd ?_)
              refine hK _ _ fun nx => ?_; clear hK K; try clear kk
              obtain ⟨same_12, h14, hh⟩ := bind_ex hh
              refine awp_first fun K kk hK => ?_
              simp only [go_sem, hl0a, hl0b, hl0d, hl0w]
              refine step_call2 (ih_node_Same _ _ _ h14) (by (try simp only [go_sem, hl0a, hl0b, hl0d, hl0w]) <;> exact wkl) (by rfl) (by rfl) ?_
              simp only [go_sem, hl0a, hl0b, hl0d, hl0w]
              refine hK _ _ fun nx => ?_; clear hK K; try clear kk
              by_cases h15 : (!same_12) = true
              · rw [if_pos h15] at hh
                refine awp_true (by first | exact congrArg PV.bool h15 | rfl) ?_
                refine awp_first fun K kk hK => ?_
                simp only [go_sem, hl0a, hl0b, hl0d, hl0w]
                refine hK _ _ fun nx => ?_; clear hK K; try clear kk
                refine awp_ret ?_; refine nmx ?_
                refine fragR ⟨_, (Option.some.inj hh), ?_⟩
                exact ret_p2
              · rw [if_neg h15] at hh
                replace h15 := Bool.eq_false_iff.mpr h15
                refine awp_false (by first | exact congrArg PV.bool h15 | rfl) ?_
                refine awp_skip ?_; refine nmx ?_
                refine awp_region fun K kk hK => ?_
                simp only [go_sem, hl0a, hl0b, hl0d, hl0w]
                refine hK _ _ fun nx => ?_; clear hK K; try clear kk
                refine nmx ?_
                have ih' := ih (pre ++ [y_10]) (v_6 + 1) (by rw [hsplit]; simp) (by simp [hidx]) hh nx
                refine cut_id ?_
                first | exact ih' | (simp only [diptychlaw18_Cell.pv_eq, api_Attr.pv_eq, api_Node.pv_eq, step_Step.pv_eq, diff_change.pv_eq, maps_Range.pv_eq, pvL, List.map_cons, List.map_nil, List.map_append, rune1] at ih' ⊢; exact ih') | (simp only [diptychlaw18_Cell.pv_eq, api_Attr.pv_eq, api_Node.pv_eq, step_Step.pv_eq, diff_change.pv_eq, maps_Range.pv_eq, pvL, List.map_cons, List.map_nil, List.map_append, rune1, h1, h12, h15] at ih' ⊢; exact ih')
          exact key s1_1 [] _ rfl rfl f0 _
        · rintro s ⟨t, hless, rfl, v_14, v_15, nx, rfl⟩
          try dsimp only at hh
          refine nmy ?_
          first | (refine cut_less hless ?_; try refine cut_awp ?_) | refine frag_less hless ?_ | refine body_less hless ?_
          refine awp_first fun K kk hK => ?_
          simp only [go_sem]
          refine hK _ _ fun nx => ?_; clear hK K; try clear kk
          refine awp_ret ?_; refine nmx ?_
          obtain hR := Option.some.inj hh
          subst hR
          exact ret_p2
        · intro i s h; exact h.elim
        · rintro s ⟨res_13, rfl, hb⟩
          try dsimp only at hh
          obtain hR := Option.some.inj hh
          subst hR
          refine nmx ?_
          exact hb
    · intro a_1 b_2 R hh
      rw [node_Same_k] at hh
      refine start_node_Same rfl ?_
      refine awp_first fun K kk hK => ?_
      simp only [go_sem]
      refine hK _ _ fun nx => ?_; clear hK K; try clear kk
      by_cases h1 : (a_1.Kind == b_2.Kind) = true
      · rw [if_pos h1] at hh
        by_cases h2 : (a_1.Text == b_2.Text) = true
        · rw [if_pos h2] at hh
          obtain ⟨string_3, h3, hh⟩ := bind_ex hh
          by_cases h4 : (string_3) = true
          · rw [if_pos h4] at hh
            obtain ⟨attr_4, h5, hh⟩ := bind_ex hh
            by_cases h6 : (attr_4) = true
            · rw [if_pos h6] at hh
              obtain ⟨node_5, h7, hh⟩ := bind_ex hh
              refine awp_first fun K kk hK => ?_
              simp only [go_sem, h1, h1, h2, h2, h4, h4, h6, h6]
              (repeat refine sd ?_)
              refine step_call2 (slices_Equal_string_ok _ _ _ h3) (by (try simp only [go_sem, h1, h1, h2, h2, h4, h4, h6, h6]) <;> exact wkl) (by rfl) (by rfl) ?_
              simp only [go_sem, h1, h1, h2, h2, h4, h4, h6, h6]
              (repeat refine sd ?_)
              refine step_call2 (slices_Equal_api_Attr_ok _ _ _ h5) (by (try simp only [go_sem, h1, h1, h2, h2, h4, h4, h6, h6]) <;> exact wkl) (by rfl) (by rfl) ?_
              simp only [go_sem, h1, h1, h2, h2, h4, h4, h6, h6]
              (repeat refine sd ?_)
              refine step_call2 (ih_slices_EqualFunc_api_Node_node_Same _ _ _ h7) (by (try simp only [go_sem, h1, h1, h2, h2, h4, h4, h6, h6]) <;> exact wkl) (by rfl) (by rfl) ?_
              simp only [go_sem, h1, h1, h2, h2, h4, h4, h6, h6]
              (repeat refine sd ?_)
              refine hK _ _ fun nx => ?_; clear hK K; try clear kk
              refine awp_ret ?_; refine nmx ?_
              obtain hR := Option.some.inj hh
              subst hR
              exact ret_p2
            · rw [if_neg h6] at hh
              replace h6 := Bool.eq_false_iff.mpr h6
              refine awp_first fun K kk hK => ?_
              simp only [go_sem, h1, h1, h2, h2, h4, h4, h6, h6]
              (repeat refine sd ?_)
              refine step_call2 (slices_Equal_string_ok _ _ _ h3) (by (try simp only [go_sem, h1, h1, h2, h2, h4, h4, h6, h6]) <;> exact wkl) (by rfl) (by rfl) ?_
              simp only [go_sem, h1, h1, h2, h2, h4, h4, h6, h6]
              (repeat refine sd ?_)
              refine step_call2 (slices_Equal_api_Attr_ok _ _ _ h5) (by (try simp only [go_sem, h1, h1, h2, h2, h4, h4, h6, h6]) <;> exact wkl) (by rfl) (by rfl) ?_
              simp only [go_sem, h1, h1, h2, h2, h4, h4, h6, h6]
              (repeat refine sd ?_)
              refine hK _ _ fun nx => ?_; clear hK K; try clear kk
              refine awp_ret ?_; refine nmx ?_
              obtain hR := Option.some.inj hh
              subst hR
              exact ret_p2
          · rw [if_neg h4] at hh
            replace h4 := Bool.eq_false_iff.mpr h4
            refine awp_first fun K kk hK => ?_
            simp only [go_sem, h1, h1, h2, h2, h4, h4]
            (repeat refine sd ?_)
            refine step_call2 (slices_Equal_string_ok _ _ _ h3) (by (try simp only [go_sem, h1, h1, h2, h2, h4, h4]) <;> exact wkl) (by rfl) (by rfl) ?_
            simp only [go_sem, h1, h1, h2, h2, h4, h4]
            (repeat refine sd ?_)
            refine hK _ _ fun nx => ?_; clear hK K; try clear kk
            refine awp_ret ?_; refine nmx ?_
            obtain hR := Option.some.inj hh
            subst hR
            exact ret_p2
        · rw [if_neg h2] at hh
          replace h2 := Bool.eq_false_iff.mpr h2
          refine awp_first fun K kk hK => ?_
          simp only [go_sem, h1, h1, h2, h2]
          (repeat refine sd ?_)
          refine hK _ _ fun nx => ?_; clear hK K; try clear kk
          refine awp_ret ?_; refine nmx ?_
          obtain hR := Option.some.inj hh
          subst hR
          exact ret_p2
      · rw [if_neg h1] at hh
        replace h1 := Bool.eq_false_iff.mpr h1
        refine awp_first fun K kk hK => ?_
        simp only [go_sem, h1, h1]
        (repeat refine sd ?_)
        refine hK _ _ fun nx => ?_; clear hK K; try clear kk
        refine awp_ret ?_; refine nmx ?_
        obtain hR := Option.some.inj hh
        subst hR
        exact ret_p2
theorem slices_EqualFunc_api_Node_node_Same_ok (s1_1 : (List api_Node)) (s2_2 : (List api_Node)) (R : Bool) (hh : slices_EqualFunc_api_Node_node_Same s1_1 s2_2 = some R) : PC Tryd.prog 62 [.list 5 (s1_1.map api_Node.pv), .list 5 (s2_2.map api_Node.pv), .fn 17 []] (.bool R) := by
  rw [slices_EqualFunc_api_Node_node_Same] at hh
  obtain ⟨kr, hh⟩ := lim_some hh
  exact (slices_EqualFunc_api_Node_node_Same_grp kr).1 _ _ _ hh
theorem node_Same_ok (a_1 : api_Node) (b_2 : api_Node) (R : Bool) (hh : node_Same a_1 b_2 = some R) : PC Tryd.prog 17 [.agg [.str a_1.Kind, .str a_1.Text, .list 1 (a_1.Marks.map PV.str), .list 2 (a_1.Attrs.map api_Attr.pv), .list 5 (a_1.Kids.map api_Node.pv)], .agg [.str b_2.Kind, .str b_2.Text, .list 1 (b_2.Marks.map PV.str), .list 2 (b_2.Attrs.map api_Attr.pv), .list 5 (b_2.Kids.map api_Node.pv)]] (.bool R) := by
  rw [node_Same] at hh
  obtain ⟨kr, hh⟩ := lim_some hh
  exact (slices_EqualFunc_api_Node_node_Same_grp kr).2 _ _ _ hh
theorem diff_change_set_xx_ok (Kind_1 : Str) (Text_2 : Str) (Marks_3 : (List Str)) (Attrs_4 : (List api_Attr)) (Kids_5 : (List api_Node)) (Kind_6 : Str) (Text_7 : Str) (Marks_8 : (List Str)) (Attrs_9 : (List api_Attr)) (Kids_10 : (List api_Node)) (at__11 : Int) (head_12 : Int) (m_13 : Int) (n_14 : Int) (l_15 : (List Int)) (l_16 : (List step_Step)) (R : (Str × Str × (List Str) × (List api_Attr) × (List api_Node) × Str × Str × (List Str) × (List api_Attr) × (List api_Node) × Int × Int × Int × Int × (List Int) × (List step_Step))) (hh : diff_change_set_xx Kind_1 Text_2 Marks_3 Attrs_4 Kids_5 Kind_6 Text_7 Marks_8 Attrs_9 Kids_10 at__11 head_12 m_13 n_14 l_15 l_16 = some R) : BC Tryd.prog 94 [.box 1000 0 0] [.var 116 [.str Kind_1, .str Text_2, .list 1 (Marks_3.map PV.str), .list 2 (Attrs_4.map api_Attr.pv), .list 5 (Kids_5.map api_Node.pv), .str Kind_6, .str Text_7, .list 1 (Marks_8.map PV.str), .list 2 (Attrs_9.map api_Attr.pv), .list 5 (Kids_10.map api_Node.pv), .row 1001 0 l_15.length, .int .i64 at__11, .int .i64 head_12, .int .i64 m_13, .int .i64 n_14, .row 1002 0 l_16.length], .row false 1 (l_15.map (PV.int .i64)), .row false 6 (l_16.map step_Step.pv)] (.tup []) [.var 116 [.str R.1, .str R.2.1, .list 1 (R.2.2.1.map PV.str), .list 2 (R.2.2.2.1.map api_Attr.pv), .list 5 (R.2.2.2.2.1.map api_Node.pv), .str R.2.2.2.2.2.1, .str R.2.2.2.2.2.2.1, .list 1 (R.2.2.2.2.2.2.2.1.map PV.str), .list 2 (R.2.2.2.2.2.2.2.2.1.map api_Attr.pv), .list 5 (R.2.2.2.2.2.2.2.2.2.1.map api_Node.pv), .row 1001 0 R.2.2.2.2.2.2.2.2.2.2.2.2.2.2.1.length, .int .i64 R.2.2.2.2.2.2.2.2.2.2.1, .int .i64 R.2.2.2.2.2.2.2.2.2.2.2.1, .int .i64 R.2.2.2.2.2.2.2.2.2.2.2.2.1, .int .i64 R.2.2.2.2.2.2.2.2.2.2.2.2.2.1, .row 1002 0 R.2.2.2.2.2.2.2.2.2.2.2.2.2.2.2.length], .row false 1 (R.2.2.2.2.2.2.2.2.2.2.2.2.2.2.1.map (PV.int .i64)), .moved 6 (R.2.2.2.2.2.2.2.2.2.2.2.2.2.2.2.map step_Step.pv)] := by
  rw [diff_change_set_xx] at hh
  refine start_diff_change_set_xx rfl rfl rfl ?_
  refine awp_first fun K kk hK => ?_
  simp only [go_sem]
  refine hK _ _ fun nx => ?_; clear hK K; try clear kk
  obtain ⟨e0, f0, hh⟩ := bind_ex hh
  obtain ⟨hlen0, f0⟩ := chk_some f0
  refine awp_fragE (CutTo (fun s => ∃ v_30, v_30 = e0 ∧ ∃ (v_28 : Int) (v_29 : Bool) (nx : Nat) (g1002 : Nat), s = ⟨[(0, .box 1000 0 0), (8, .list 2 (Attrs_4.map api_Attr.pv)), (9, .int .i64 (Attrs_4.length : Int)), (10, .int .i64 v_28), (11, .bool v_29)], [(1000, 0, .var 116 [.str Kind_1, .str Text_2, .list 1 (Marks_3.map PV.str), .list 2 (Attrs_4.map api_Attr.pv), .list 5 (Kids_5.map api_Node.pv), .str Kind_6, .str Text_7, .list 1 (Marks_8.map PV.str), .list 2 (Attrs_9.map api_Attr.pv), .list 5 (Kids_10.map api_Node.pv), .row 1001 0 l_15.length, .int .i64 at__11, .int .i64 head_12, .int .i64 m_13, .int .i64 n_14, .row 1002 g1002 v_30.length]), (1001, 0, .row false 1 (l_15.map (PV.int .i64))), (1002, g1002, .row false 6 (v_30.map step_Step.pv))], nx⟩))
    (fun i s => False)
    (fun s => False) ?_ ?_ ?_ ?_
  · refine awp_block ?_
    refine awp_loopJ fun I hI => ?_
    have key : ∀ (suf pre : List api_Attr) (v_20 : Int) (v_21 : (List step_Step)), Attrs_4 = pre ++ suf → v_20 = (pre.length : Int) → diff_change_set_xx_l0 Attrs_9 at__11 suf v_20 v_21 = some e0 → ∀ (nx : Nat) (g1002 : Nat), I ⟨[(0, .box 1000 0 0), (8, .list 2 (Attrs_4.map api_Attr.pv)), (9, .int .i64 (Attrs_4.length : Int)), (10, .int .i64 v_20)], [(1000, 0, .var 116 [.str Kind_1, .str Text_2, .list 1 (Marks_3.map PV.str), .list 2 (Attrs_4.map api_Attr.pv), .list 5 (Kids_5.map api_Node.pv), .str Kind_6, .str Text_7, .list 1 (Marks_8.map PV.str), .list 2 (Attrs_9.map api_Attr.pv), .list 5 (Kids_10.map api_Node.pv), .row 1001 0 l_15.length, .int .i64 at__11, .int .i64 head_12, .int .i64 m_13, .int .i64 n_14, .row 1002 g1002 v_21.length]), (1001, 0, .row false 1 (l_15.map (PV.int .i64))), (1002, g1002, .row false 6 (v_21.map step_Step.pv))], nx⟩ := by
      intro suf
      induction suf with
      | nil =>
        intro pre v_20 v_21 hsplit hidx hh nx g1002
        rw [diff_change_set_xx_l0] at hh
        refine hI _ ?_
        have h13 := walk_nil hsplit hidx
        refine awp_first fun K kk hK => ?_
        simp only [go_sem]
        refine hK _ _ fun nx => ?_; clear hK K; try clear kk
        refine awp_seq ?_
        refine awp_false (by first | exact congrArg PV.bool h13 | rfl) ?_
        refine awp_exit ?_; refine nmx ?_
        refine fragN ?_
        refine cut_id ?_
        refine ⟨_, (Option.some.inj hh), ?_⟩
        first | exact ⟨_, _, _, _, rfl⟩ | (simp only [diptychlaw18_Cell.pv_eq, api_Attr.pv_eq, api_Node.pv_eq, step_Step.pv_eq, diff_change.pv_eq, maps_Range.pv_eq, pvL, List.map_cons, List.map_nil, List.map_append, rune1]; exact ⟨_, _, _, _, rfl⟩) | (simp only [diptychlaw18_Cell.pv_eq, api_Attr.pv_eq, api_Node.pv_eq, step_Step.pv_eq, diff_change.pv_eq, maps_Range.pv_eq, pvL, List.map_cons, List.map_nil, List.map_append, rune1, h13]; exact ⟨_, _, _, _, rfl⟩)
      | cons y_25 suf ih =>
        intro pre v_20 v_21 hsplit hidx hh nx g1002
        rw [diff_change_set_xx_l0] at hh
        refine hI _ ?_
        obtain ⟨hl0a, hl0b, hl0d, hl0w, h13⟩ := walk_cons (f := api_Attr.pv) hsplit hidx hlen0
        refine awp_first fun K kk hK => ?_
        simp only [go_sem]
        refine hK _ _ fun nx => ?_; clear hK K; try clear kk
        refine awp_seq ?_
        refine awp_true (by first | exact congrArg PV.bool h13 | rfl) ?_
        refine awp_skip ?_; refine nmx ?_
        refine awp_seq ?_
        refine awp_block ?_
        refine awp_first fun K kk hK => ?_
        simp only [go_sem, hl0a, hl0b, hl0d, hl0w]
        refine hK _ _ fun nx => ?_; clear hK K; try clear kk
        by_cases h14 : (decide (v_20 < (Attrs_9.length : Int))) = true
        · rw [if_pos h14] at hh
          obtain ⟨x_26, h15, hh⟩ := bind_ex hh
          obtain ⟨h15a, h15b, h15c⟩ := rd_some h15
          have h15d := rd_get (f := api_Attr.pv) h15c
          have h15f := rd_more (f := api_Attr.pv) h15c
          try simp only [Int.toNat_natCast, Int.reduceToNat] at h15d h15f
          refine awp_first fun K kk hK => ?_
          simp only [go_sem, h14, of_decide_eq_true h14, h15a, h15b, h15d, h15f.1, h15f.2, h14, of_decide_eq_true h14, hl0a, hl0b, hl0d, hl0w]
          (repeat refine sd ?_)
          refine hK _ _ fun nx => ?_; clear hK K; try clear kk
          by_cases h16 : (!(x_26.Value == y_25.Value)) = true
          · rw [if_pos h16] at hh
            refine awp_true (by first | exact congrArg PV.bool h16 | rfl) ?_
            obtain ⟨l_27, h17, hh⟩ := bind_ex hh
            obtain ⟨h17a, h17c⟩ := app_some h17
            have h17d := app_map (f := step_Step.pv) h17c
            have h17e := app_len h17c
            try simp only [List.length_cons, List.length_nil, Nat.zero_add, Nat.reduceAdd] at h17a h17e
            try simp only [h17e] at h17a
            try simp only [List.map_cons, List.map_nil, List.nil_append, List.append_nil, List.cons_append, List.singleton_append, rune1, diptychlaw18_Cell.pv_eq, api_Attr.pv_eq, api_Node.pv_eq, step_Step.pv_eq, diff_change.pv_eq, maps_Range.pv_eq, pvL] at h17d
            refine awp_region fun K kk hK => ?_
            simp only [go_sem, h15a, h15b, h15d, h15f.1, h15f.2, h17a, h17d, h17e, hl0a, hl0b, hl0d, hl0w]
            (repeat refine sd ?_)
            refine hK _ _ fun nx => ?_; clear hK K; try clear kk
            refine nmx ?_
            refine awp_region fun K kk hK => ?_
            simp only [go_sem, hl0a, hl0b, hl0d, hl0w]
            refine hK _ _ fun nx => ?_; clear hK K; try clear kk
            refine nmx ?_
            have ih' := ih (pre ++ [y_25]) (v_20 + 1) _ (by rw [hsplit]; simp) (by simp [hidx]) hh nx
            refine cut_id ?_
            first | exact ih' _ | (simp only [diptychlaw18_Cell.pv_eq, api_Attr.pv_eq, api_Node.pv_eq, step_Step.pv_eq, diff_change.pv_eq, maps_Range.pv_eq, pvL, List.map_cons, List.map_nil, List.map_append, rune1, h17e] at ih' ⊢; exact ih' _) | (simp only [diptychlaw18_Cell.pv_eq, api_Attr.pv_eq, api_Node.pv_eq, step_Step.pv_eq, diff_change.pv_eq, maps_Range.pv_eq, pvL, List.map_cons, List.map_nil, List.map_append, rune1, h17e, h13, h14, h16] at ih' ⊢; exact ih' _)
          · rw [if_neg h16] at hh
            replace h16 := Bool.eq_false_iff.mpr h16
            refine awp_false (by first | exact congrArg PV.bool h16 | rfl) ?_
            refine awp_skip ?_; refine nmx ?_
            refine awp_region fun K kk hK => ?_
            simp only [go_sem, hl0a, hl0b, hl0d, hl0w]
            refine hK _ _ fun nx => ?_; clear hK K; try clear kk
            refine nmx ?_
            have ih' := ih (pre ++ [y_25]) (v_20 + 1) _ (by rw [hsplit]; simp) (by simp [hidx]) hh nx
            refine cut_id ?_
            first | exact ih' _ | (simp only [diptychlaw18_Cell.pv_eq, api_Attr.pv_eq, api_Node.pv_eq, step_Step.pv_eq, diff_change.pv_eq, maps_Range.pv_eq, pvL, List.map_cons, List.map_nil, List.map_append, rune1] at ih' ⊢; exact ih' _) | (simp only [diptychlaw18_Cell.pv_eq, api_Attr.pv_eq, api_Node.pv_eq, step_Step.pv_eq, diff_change.pv_eq, maps_Range.pv_eq, pvL, List.map_cons, List.map_nil, List.map_append, rune1, h13, h14, h16] at ih' ⊢; exact ih' _)
        · rw [if_neg h14] at hh
          replace h14 := Bool.eq_false_iff.mpr h14
          refine awp_first fun K kk hK => ?_
          simp only [go_sem, h14, of_decide_eq_false h14, h14, of_decide_eq_false h14, hl0a, hl0b, hl0d, hl0w]
          (repeat refine sd ?_)
          refine hK _ _ fun nx => ?_; clear hK K; try clear kk
          refine awp_false rfl ?_
          refine awp_skip ?_; refine nmx ?_
          refine awp_region fun K kk hK => ?_
          simp only [go_sem, hl0a, hl0b, hl0d, hl0w]
          refine hK _ _ fun nx => ?_; clear hK K; try clear kk
          refine nmx ?_
          have ih' := ih (pre ++ [y_25]) (v_20 + 1) _ (by rw [hsplit]; simp) (by simp [hidx]) hh nx
          refine cut_id ?_
          first | exact ih' _ | (simp only [diptychlaw18_Cell.pv_eq, api_Attr.pv_eq, api_Node.pv_eq, step_Step.pv_eq, diff_change.pv_eq, maps_Range.pv_eq, pvL, List.map_cons, List.map_nil, List.map_append, rune1] at ih' ⊢; exact ih' _) | (simp only [diptychlaw18_Cell.pv_eq, api_Attr.pv_eq, api_Node.pv_eq, step_Step.pv_eq, diff_change.pv_eq, maps_Range.pv_eq, pvL, List.map_cons, List.map_nil, List.map_append, rune1, h13, h14] at ih' ⊢; exact ih' _)
    exact key Attrs_4 [] _ _ rfl rfl f0 _ _
  · rintro s ⟨t, hless, v_30, rfl, v_28, v_29, nx, g1002, rfl⟩
    try dsimp only at hh
    refine nmy ?_
    first | (refine cut_less hless ?_; try refine cut_awp ?_) | refine frag_less hless ?_ | refine body_less hless ?_
    obtain hR := Option.some.inj hh
    subst hR
    refine body_end ?_
    refine ret_pureB ?_ (by rfl) ?_
    · simp only [go_sem, rvsRes, rvRes, cellRes, tupOf, pur2, List.map_cons, List.map_append, List.head?_cons]
      all_goals exact wkw
    · (try simp only [go_sem]); (try simp only [List.length_append, List.map_append]); all_goals exact wkb
  · intro i s h; exact h.elim
  · intro s h; exact h.elim
theorem diff_of_ok (a_1 : api_Node) (b_2 : api_Node) (R : diff_change) (hh : diff_of a_1 b_2 = some R) : PC Tryd.prog 67 [.agg [.str a_1.Kind, .str a_1.Text, .list 1 (a_1.Marks.map PV.str), .list 2 (a_1.Attrs.map api_Attr.pv), .list 5 (a_1.Kids.map api_Node.pv)], .agg [.str b_2.Kind, .str b_2.Text, .list 1 (b_2.Marks.map PV.str), .list 2 (b_2.Attrs.map api_Attr.pv), .list 5 (b_2.Kids.map api_Node.pv)]] (.ownV 116 [.str R.a.Kind, .str R.a.Text, .list 1 (R.a.Marks.map PV.str), .list 2 (R.a.Attrs.map api_Attr.pv), .list 5 (R.a.Kids.map api_Node.pv), .str R.b.Kind, .str R.b.Text, .list 1 (R.b.Marks.map PV.str), .list 2 (R.b.Attrs.map api_Attr.pv), .list 5 (R.b.Kids.map api_Node.pv), .list 1 (R.path.map (PV.int .i64)), .int .i64 R.at_, .int .i64 R.head, .int .i64 R.m, .int .i64 R.n] 6 (R.attrs.map step_Step.pv) []) := by
  rw [diff_of] at hh
  refine start_diff_of rfl ?_
  refine awp_first fun K kk hK => ?_
  simp only [go_sem]
  refine hK _ _ fun nx => ?_; clear hK K; try clear kk
  refine awp_scope ?_
  refine awp_first fun K kk hK => ?_
  simp only [go_sem]
  refine hK _ _ fun nx => ?_; clear hK K; try clear kk
  refine awp_seq ?_
  refine awp_label ?_; refine nmx ?_
  refine awp_seq ?_
  obtain ⟨e0, f0, hh⟩ := bind_ex hh
  refine awp_frag (fun s => ∃ x_99, ∃ y_100, ∃ c_102, ∃ c_103, ∃ c_104, ∃ c_105, ∃ c_106, ∃ c_107, ∃ c_108, ∃ c_109, ∃ c_110, ∃ c_111, ∃ c_112, ∃ c_113, ∃ v_114, ∃ v_115, (x_99, y_100, c_102, c_103, c_104, c_105, c_106, c_107, c_108, c_109, c_110, c_111, c_112, c_113, v_114, v_115) = e0 ∧ ∃ (v_101 : Bool) (nx : Nat) (g12 : Nat) (g394 : Nat) (g399 : Nat), s = ⟨[(5, .box 12 g12 0), (6, .list 5 (x_99.map api_Node.pv)), (7, .list 5 (y_100.map api_Node.pv)), (148, .bool v_101)], [(12, g12, .var 116 [.str c_102, .str c_103, .list 1 (c_104.map PV.str), .list 2 (c_105.map api_Attr.pv), .list 5 (x_99.map api_Node.pv), .str c_106, .str c_107, .list 1 (c_108.map PV.str), .list 2 (c_109.map api_Attr.pv), .list 5 (y_100.map api_Node.pv), .row 394 g394 v_114.length, .int .i64 c_110, .int .i64 c_111, .int .i64 c_112, .int .i64 c_113, .row 399 g399 v_115.length]), (394, g394, .row false 1 (v_114.map (PV.int .i64))), (399, g399, .row false 6 (v_115.map step_Step.pv))], nx⟩)
    (fun i s => False)
    (fun s => False) ?_ ?_ ?_ ?_
  · refine awp_block ?_
    refine awp_loopJ fun I hI => ?_
    obtain ⟨k, f0⟩ := lim_some f0
    have key : ∀ (k : Nat) (c_43 : Str) (c_44 : Str) (c_45 : (List Str)) (c_46 : (List api_Attr)) (c_47 : (List api_Node)) (c_48 : Str) (c_49 : Str) (c_50 : (List Str)) (c_51 : (List api_Attr)) (c_52 : (List api_Node)) (c_53 : Int) (c_54 : Int) (c_55 : Int) (c_56 : Int) (v_57 : (List Int)) (v_58 : (List step_Step)), diff_of_l0 k c_43 c_44 c_45 c_46 c_47 c_48 c_49 c_50 c_51 c_52 c_53 c_54 c_55 c_56 v_57 v_58 = some e0 → ∀ (nx : Nat) (g12 : Nat) (g394 : Nat) (g399 : Nat), I ⟨[(5, .box 12 g12 0)], [(12, g12, .var 116 [.str c_43, .str c_44, .list 1 (c_45.map PV.str), .list 2 (c_46.map api_Attr.pv), .list 5 (c_47.map api_Node.pv), .str c_48, .str c_49, .list 1 (c_50.map PV.str), .list 2 (c_51.map api_Attr.pv), .list 5 (c_52.map api_Node.pv), .row 394 g394 v_57.length, .int .i64 c_53, .int .i64 c_54, .int .i64 c_55, .int .i64 c_56, .row 399 g399 v_58.length]), (394, g394, .row false 1 (v_57.map (PV.int .i64))), (399, g399, .row false 6 (v_58.map step_Step.pv))], nx⟩ := by
      intro k
      induction k with
      | zero => intro c_43 c_44 c_45 c_46 c_47 c_48 c_49 c_50 c_51 c_52 c_53 c_54 c_55 c_56 v_57 v_58 hh; rw [diff_of_l0] at hh; cases hh
      | succ k ih =>
        intro c_43 c_44 c_45 c_46 c_47 c_48 c_49 c_50 c_51 c_52 c_53 c_54 c_55 c_56 v_57 v_58 hh nx g12 g394 g399
        rw [diff_of_l0] at hh
        refine hI _ ?_
        refine awp_block ?_
        obtain ⟨⟨Kind_59, Text_60, Marks_61, Attrs_62, Kids_63, Kind_64, Text_65, Marks_66, Attrs_67, Kids_68, at__69, head_70, m_71, n_72, l_73, l_74⟩, h32, hh⟩ := bind_ex hh
        dsimp only at hh
        obtain ⟨h33, hh⟩ := chk_some hh
        refine awp_first fun K kk hK => ?_
        simp only [go_sem, h33]
        (repeat refine sd ?_)
        refine step_callC [12, 394, 399] (by decide) (diff_change_set_xx_ok _ _ _ _ _ _ _ _ _ _ _ _ _ _ _ _ _ h32) (by (try simp only [go_sem, h33]) <;> exact wkb) (by rfl) ?_
        simp only [go_sem, h33]
        (repeat refine sd ?_)
        refine hK _ _ fun nx => ?_; clear hK K; try clear kk
        refine awp_first fun K kk hK => ?_
        simp only [go_sem]
        refine hK _ _ fun nx => ?_; clear hK K; try clear kk
        refine awp_first fun K kk hK => ?_
        simp only [go_sem]
        refine hK _ _ fun nx => ?_; clear hK K; try clear kk
        refine awp_seq ?_
        obtain ⟨e3, f3, hh⟩ := bind_ex hh
        refine awp_frag (fun s => ∃ c_83, c_83 = e3 ∧ ∃ (v_82 : Bool) (nx : Nat) (g12 : Nat) (g394 : Nat) (g399 : Nat), s = ⟨[(5, .box 12 g12 0), (6, .list 5 (Kids_63.map api_Node.pv)), (7, .list 5 (Kids_68.map api_Node.pv)), (54, .bool v_82)], [(12, g12, .var 116 [.str Kind_59, .str Text_60, .list 1 (Marks_61.map PV.str), .list 2 (Attrs_62.map api_Attr.pv), .list 5 (Kids_63.map api_Node.pv), .str Kind_64, .str Text_65, .list 1 (Marks_66.map PV.str), .list 2 (Attrs_67.map api_Attr.pv), .list 5 (Kids_68.map api_Node.pv), .row 394 g394 l_73.length, .int .i64 at__69, .int .i64 c_83, .int .i64 m_71, .int .i64 n_72, .row 399 g399 l_74.length]), (394, g394, .row false 1 (l_73.map (PV.int .i64))), (399, g399, .row false 6 (l_74.map step_Step.pv))], nx⟩)
          (fun i s => False)
          (fun s => False) ?_ ?_ ?_ ?_
        · refine awp_block ?_
          refine awp_loopJ fun I hI => ?_
          obtain ⟨k, f3⟩ := lim_some f3
          have key : ∀ (k : Nat) (c_78 : Int), diff_of_l3 Kids_63 Kids_68 k c_78 = some e3 → ∀ (nx : Nat) (g12 : Nat) (g394 : Nat) (g399 : Nat), I ⟨[(5, .box 12 g12 0), (6, .list 5 (Kids_63.map api_Node.pv)), (7, .list 5 (Kids_68.map api_Node.pv))], [(12, g12, .var 116 [.str Kind_59, .str Text_60, .list 1 (Marks_61.map PV.str), .list 2 (Attrs_62.map api_Attr.pv), .list 5 (Kids_63.map api_Node.pv), .str Kind_64, .str Text_65, .list 1 (Marks_66.map PV.str), .list 2 (Attrs_67.map api_Attr.pv), .list 5 (Kids_68.map api_Node.pv), .row 394 g394 l_73.length, .int .i64 at__69, .int .i64 c_78, .int .i64 m_71, .int .i64 n_72, .row 399 g399 l_74.length]), (394, g394, .row false 1 (l_73.map (PV.int .i64))), (399, g399, .row false 6 (l_74.map step_Step.pv))], nx⟩ := by
            intro k
            induction k with
            | zero => intro c_78 hh; rw [diff_of_l3] at hh; cases hh
            | succ k ih =>
              intro c_78 hh nx g12 g394 g399
              rw [diff_of_l3] at hh
              refine hI _ ?_
              refine awp_seq ?_
              by_cases h39 : (decide (c_78 < (if (Kids_68.length : Int) < (Kids_63.length : Int) then (Kids_68.length : Int) else (Kids_63.length : Int)))) = true
              · rw [if_pos h39] at hh
                obtain ⟨x_79, h40, hh⟩ := bind_ex hh
                obtain ⟨h40a, h40b, h40c⟩ := rd_some h40
                have h40d := rd_get (f := api_Node.pv) h40c
                have h40f := rd_more (f := api_Node.pv) h40c
                try simp only [Int.toNat_natCast, Int.reduceToNat] at h40d h40f
                obtain ⟨x_80, h41, hh⟩ := bind_ex hh
                obtain ⟨h41a, h41b, h41c⟩ := rd_some h41
                have h41d := rd_get (f := api_Node.pv) h41c
                have h41f := rd_more (f := api_Node.pv) h41c
                try simp only [Int.toNat_natCast, Int.reduceToNat] at h41d h41f
                obtain ⟨same_81, h42, hh⟩ := bind_ex hh
                refine awp_first fun K kk hK => ?_
                simp only [go_sem, h39, of_decide_eq_true h39, h40a, h40b, h40d, h40f.1, h40f.2, h41a, h41b, h41d, h41f.1, h41f.2, h39, of_decide_eq_true h39]
                (repeat refine sd ?_)
                refine step_call2 (node_Same_ok _ _ _ h42) (by (try simp only [go_sem, h39, of_decide_eq_true h39, h40a, h40b, h40d, h40f.1, h40f.2, h41a, h41b, h41d, h41f.1, h41f.2, h39, of_decide_eq_true h39]) <;> exact wkl) (by rfl) (by rfl) ?_
                simp only [go_sem, h39, of_decide_eq_true h39, h40a, h40b, h40d, h40f.1, h40f.2, h41a, h41b, h41d, h41f.1, h41f.2, h39, of_decide_eq_true h39]
                (repeat refine sd ?_)
                refine hK _ _ fun nx => ?_; clear hK K; try clear kk
                by_cases h43 : (same_81) = true
                · rw [if_pos h43] at hh
                  refine awp_true (by first | exact congrArg PV.bool h43 | rfl) ?_
                  refine awp_skip ?_; refine nmx ?_
                  refine awp_block ?_
                  refine awp_region fun K kk hK => ?_
                  simp only [go_sem]
                  refine hK _ _ fun nx => ?_; clear hK K; try clear kk
                  refine nmx ?_
                  have ih' := ih _ hh nx
                  refine cut_id ?_
                  first | exact ih' _ _ _ | (simp only [diptychlaw18_Cell.pv_eq, api_Attr.pv_eq, api_Node.pv_eq, step_Step.pv_eq, diff_change.pv_eq, maps_Range.pv_eq, pvL, List.map_cons, List.map_nil, List.map_append, rune1] at ih' ⊢; exact ih' _ _ _) | (simp only [diptychlaw18_Cell.pv_eq, api_Attr.pv_eq, api_Node.pv_eq, step_Step.pv_eq, diff_change.pv_eq, maps_Range.pv_eq, pvL, List.map_cons, List.map_nil, List.map_append, rune1, h39, h43] at ih' ⊢; exact ih' _ _ _)
                · rw [if_neg h43] at hh
                  replace h43 := Bool.eq_false_iff.mpr h43
                  refine awp_false (by first | exact congrArg PV.bool h43 | rfl) ?_
                  refine awp_exit ?_; refine nmx ?_
                  refine fragN ?_
                  refine cut_id ?_
                  refine ⟨_, (Option.some.inj hh), ?_⟩
                  first | exact ⟨_, _, _, _, _, rfl⟩ | (simp only [diptychlaw18_Cell.pv_eq, api_Attr.pv_eq, api_Node.pv_eq, step_Step.pv_eq, diff_change.pv_eq, maps_Range.pv_eq, pvL, List.map_cons, List.map_nil, List.map_append, rune1]; exact ⟨_, _, _, _, _, rfl⟩) | (simp only [diptychlaw18_Cell.pv_eq, api_Attr.pv_eq, api_Node.pv_eq, step_Step.pv_eq, diff_change.pv_eq, maps_Range.pv_eq, pvL, List.map_cons, List.map_nil, List.map_append, rune1, h39, h43]; exact ⟨_, _, _, _, _, rfl⟩)
              · rw [if_neg h39] at hh
                replace h39 := Bool.eq_false_iff.mpr h39
                refine awp_first fun K kk hK => ?_
                simp only [go_sem, h39, of_decide_eq_false h39, h39, of_decide_eq_false h39]
                (repeat refine sd ?_)
                refine hK _ _ fun nx => ?_; clear hK K; try clear kk
                refine awp_false rfl ?_
                refine awp_exit ?_; refine nmx ?_
                refine fragN ?_
                refine cut_id ?_
                refine ⟨_, (Option.some.inj hh), ?_⟩
                first | exact ⟨_, _, _, _, _, rfl⟩ | (simp only [diptychlaw18_Cell.pv_eq, api_Attr.pv_eq, api_Node.pv_eq, step_Step.pv_eq, diff_change.pv_eq, maps_Range.pv_eq, pvL, List.map_cons, List.map_nil, List.map_append, rune1]; exact ⟨_, _, _, _, _, rfl⟩) | (simp only [diptychlaw18_Cell.pv_eq, api_Attr.pv_eq, api_Node.pv_eq, step_Step.pv_eq, diff_change.pv_eq, maps_Range.pv_eq, pvL, List.map_cons, List.map_nil, List.map_append, rune1, h39]; exact ⟨_, _, _, _, _, rfl⟩)
          exact key _ _ f3 _ _ _ _
        · rintro s ⟨c_83, rfl, v_82, nx, g12, g394, g399, rfl⟩
          try dsimp only at hh
          refine awp_first fun K kk hK => ?_
          simp only [go_sem]
          refine hK _ _ fun nx => ?_; clear hK K; try clear kk
          refine awp_seq ?_
          obtain ⟨e4, f4, hh⟩ := bind_ex hh
          refine awp_frag (fun s => ∃ tail_91, tail_91 = e4 ∧ ∃ (v_92 : Bool) (nx : Nat) (g12 : Nat) (g394 : Nat) (g399 : Nat), s = ⟨[(5, .box 12 g12 0), (6, .list 5 (Kids_63.map api_Node.pv)), (7, .list 5 (Kids_68.map api_Node.pv)), (8, .int .i64 tail_91), (92, .bool v_92)], [(12, g12, .var 116 [.str Kind_59, .str Text_60, .list 1 (Marks_61.map PV.str), .list 2 (Attrs_62.map api_Attr.pv), .list 5 (Kids_63.map api_Node.pv), .str Kind_64, .str Text_65, .list 1 (Marks_66.map PV.str), .list 2 (Attrs_67.map api_Attr.pv), .list 5 (Kids_68.map api_Node.pv), .row 394 g394 l_73.length, .int .i64 at__69, .int .i64 c_83, .int .i64 m_71, .int .i64 n_72, .row 399 g399 l_74.length]), (394, g394, .row false 1 (l_73.map (PV.int .i64))), (399, g399, .row false 6 (l_74.map step_Step.pv))], nx⟩)
            (fun i s => False)
            (fun s => False) ?_ ?_ ?_ ?_
          · refine awp_block ?_
            refine awp_loopJ fun I hI => ?_
            obtain ⟨k, f4⟩ := lim_some f4
            have key : ∀ (k : Nat) (tail_87 : Int), diff_of_l4 Kids_63 Kids_68 c_83 k tail_87 = some e4 → ∀ (nx : Nat) (g12 : Nat) (g394 : Nat) (g399 : Nat), I ⟨[(5, .box 12 g12 0), (6, .list 5 (Kids_63.map api_Node.pv)), (7, .list 5 (Kids_68.map api_Node.pv)), (8, .int .i64 tail_87)], [(12, g12, .var 116 [.str Kind_59, .str Text_60, .list 1 (Marks_61.map PV.str), .list 2 (Attrs_62.map api_Attr.pv), .list 5 (Kids_63.map api_Node.pv), .str Kind_64, .str Text_65, .list 1 (Marks_66.map PV.str), .list 2 (Attrs_67.map api_Attr.pv), .list 5 (Kids_68.map api_Node.pv), .row 394 g394 l_73.length, .int .i64 at__69, .int .i64 c_83, .int .i64 m_71, .int .i64 n_72, .row 399 g399 l_74.length]), (394, g394, .row false 1 (l_73.map (PV.int .i64))), (399, g399, .row false 6 (l_74.map step_Step.pv))], nx⟩ := by
              intro k
              induction k with
              | zero => intro tail_87 hh; rw [diff_of_l4] at hh; cases hh
              | succ k ih =>
                intro tail_87 hh nx g12 g394 g399
                rw [diff_of_l4] at hh
                refine hI _ ?_
                refine awp_seq ?_
                by_cases h49 : (decide (tail_87 < (w64 ((if (Kids_68.length : Int) < (Kids_63.length : Int) then (Kids_68.length : Int) else (Kids_63.length : Int)) - c_83)))) = true
                · rw [if_pos h49] at hh
                  obtain ⟨x_88, h50, hh⟩ := bind_ex hh
                  obtain ⟨h50a, h50b, h50c⟩ := rd_some h50
                  have h50d := rd_get (f := api_Node.pv) h50c
                  have h50f := rd_more (f := api_Node.pv) h50c
                  try simp only [Int.toNat_natCast, Int.reduceToNat] at h50d h50f
                  obtain ⟨x_89, h51, hh⟩ := bind_ex hh
                  obtain ⟨h51a, h51b, h51c⟩ := rd_some h51
                  have h51d := rd_get (f := api_Node.pv) h51c
                  have h51f := rd_more (f := api_Node.pv) h51c
                  try simp only [Int.toNat_natCast, Int.reduceToNat] at h51d h51f
                  obtain ⟨same_90, h52, hh⟩ := bind_ex hh
                  refine awp_first fun K kk hK => ?_
                  simp only [go_sem, h49, of_decide_eq_true h49, h50a, h50b, h50d, h50f.1, h50f.2, h51a, h51b, h51d, h51f.1, h51f.2, h49, of_decide_eq_true h49]
                  (repeat refine sd ?_)
                  refine step_call2 (node_Same_ok _ _ _ h52) (by (try simp only [go_sem, h49, of_decide_eq_true h49, h50a, h50b, h50d, h50f.1, h50f.2, h51a, h51b, h51d, h51f.1, h51f.2, h49, of_decide_eq_true h49]) <;> exact wkl) (by rfl) (by rfl) ?_
                  simp only [go_sem, h49, of_decide_eq_true h49, h50a, h50b, h50d, h50f.1, h50f.2, h51a, h51b, h51d, h51f.1, h51f.2, h49, of_decide_eq_true h49]
                  (repeat refine sd ?_)
                  refine hK _ _ fun nx => ?_; clear hK K; try clear kk
                  by_cases h53 : (same_90) = true
                  · rw [if_pos h53] at hh
                    refine awp_true (by first | exact congrArg PV.bool h53 | rfl) ?_
                    refine awp_skip ?_; refine nmx ?_
                    refine awp_block ?_
                    refine awp_region fun K kk hK => ?_
                    simp only [go_sem]
                    refine hK _ _ fun nx => ?_; clear hK K; try clear kk
                    refine nmx ?_
                    have ih' := ih _ hh nx
                    refine cut_id ?_
                    first | exact ih' _ _ _ | (simp only [diptychlaw18_Cell.pv_eq, api_Attr.pv_eq, api_Node.pv_eq, step_Step.pv_eq, diff_change.pv_eq, maps_Range.pv_eq, pvL, List.map_cons, List.map_nil, List.map_append, rune1] at ih' ⊢; exact ih' _ _ _) | (simp only [diptychlaw18_Cell.pv_eq, api_Attr.pv_eq, api_Node.pv_eq, step_Step.pv_eq, diff_change.pv_eq, maps_Range.pv_eq, pvL, List.map_cons, List.map_nil, List.map_append, rune1, h49, h53] at ih' ⊢; exact ih' _ _ _)
                  · rw [if_neg h53] at hh
                    replace h53 := Bool.eq_false_iff.mpr h53
                    refine awp_false (by first | exact congrArg PV.bool h53 | rfl) ?_
                    refine awp_exit ?_; refine nmx ?_
                    refine fragN ?_
                    refine cut_id ?_
                    refine ⟨_, (Option.some.inj hh), ?_⟩
                    first | exact ⟨_, _, _, _, _, rfl⟩ | (simp only [diptychlaw18_Cell.pv_eq, api_Attr.pv_eq, api_Node.pv_eq, step_Step.pv_eq, diff_change.pv_eq, maps_Range.pv_eq, pvL, List.map_cons, List.map_nil, List.map_append, rune1]; exact ⟨_, _, _, _, _, rfl⟩) | (simp only [diptychlaw18_Cell.pv_eq, api_Attr.pv_eq, api_Node.pv_eq, step_Step.pv_eq, diff_change.pv_eq, maps_Range.pv_eq, pvL, List.map_cons, List.map_nil, List.map_append, rune1, h49, h53]; exact ⟨_, _, _, _, _, rfl⟩)
                · rw [if_neg h49] at hh
                  replace h49 := Bool.eq_false_iff.mpr h49
                  refine awp_first fun K kk hK => ?_
                  simp only [go_sem, h49, of_decide_eq_false h49, h49, of_decide_eq_false h49]
                  (repeat refine sd ?_)
                  refine hK _ _ fun nx => ?_; clear hK K; try clear kk
                  refine awp_false rfl ?_
                  refine awp_exit ?_; refine nmx ?_
                  refine fragN ?_
                  refine cut_id ?_
                  refine ⟨_, (Option.some.inj hh), ?_⟩
                  first | exact ⟨_, _, _, _, _, rfl⟩ | (simp only [diptychlaw18_Cell.pv_eq, api_Attr.pv_eq, api_Node.pv_eq, step_Step.pv_eq, diff_change.pv_eq, maps_Range.pv_eq, pvL, List.map_cons, List.map_nil, List.map_append, rune1]; exact ⟨_, _, _, _, _, rfl⟩) | (simp only [diptychlaw18_Cell.pv_eq, api_Attr.pv_eq, api_Node.pv_eq, step_Step.pv_eq, diff_change.pv_eq, maps_Range.pv_eq, pvL, List.map_cons, List.map_nil, List.map_append, rune1, h49]; exact ⟨_, _, _, _, _, rfl⟩)
            exact key _ _ f4 _ _ _ _
          · rintro s ⟨tail_91, rfl, v_92, nx, g12, g394, g399, rfl⟩
            try dsimp only at hh
            refine awp_first fun K kk hK => ?_
            simp only [go_sem]
            refine hK _ _ fun nx => ?_; clear hK K; try clear kk
            refine awp_seq ?_
            by_cases h54 : ((w64 ((w64 ((Kids_63.length : Int) - c_83)) - tail_91)) != (1 : Int)) = true
            · rw [if_pos h54] at hh
              refine awp_first fun K kk hK => ?_
              simp only [go_sem, h54, h54]
              (repeat refine sd ?_)
              refine hK _ _ fun nx => ?_; clear hK K; try clear kk
              refine awp_true rfl ?_
              refine awp_exit ?_; refine nmx ?_
              refine fragN ?_
              refine cut_id ?_
              refine ⟨_, _, _, _, _, _, _, _, _, _, _, _, _, _, _, _, (Option.some.inj hh), ?_⟩
              first | exact ⟨_, _, _, _, _, rfl⟩ | (simp only [diptychlaw18_Cell.pv_eq, api_Attr.pv_eq, api_Node.pv_eq, step_Step.pv_eq, diff_change.pv_eq, maps_Range.pv_eq, pvL, List.map_cons, List.map_nil, List.map_append, rune1]; exact ⟨_, _, _, _, _, rfl⟩) | (simp only [diptychlaw18_Cell.pv_eq, api_Attr.pv_eq, api_Node.pv_eq, step_Step.pv_eq, diff_change.pv_eq, maps_Range.pv_eq, pvL, List.map_cons, List.map_nil, List.map_append, rune1, h54]; exact ⟨_, _, _, _, _, rfl⟩)
            · rw [if_neg h54] at hh
              replace h54 := Bool.eq_false_iff.mpr h54
              by_cases h55 : ((w64 ((w64 ((Kids_68.length : Int) - c_83)) - tail_91)) != (1 : Int)) = true
              · rw [if_pos h55] at hh
                refine awp_first fun K kk hK => ?_
                simp only [go_sem, h54, h54, h55, h55]
                (repeat refine sd ?_)
                refine hK _ _ fun nx => ?_; clear hK K; try clear kk
                refine awp_true rfl ?_
                refine awp_exit ?_; refine nmx ?_
                refine fragN ?_
                refine cut_id ?_
                refine ⟨_, _, _, _, _, _, _, _, _, _, _, _, _, _, _, _, (Option.some.inj hh), ?_⟩
                first | exact ⟨_, _, _, _, _, rfl⟩ | (simp only [diptychlaw18_Cell.pv_eq, api_Attr.pv_eq, api_Node.pv_eq, step_Step.pv_eq, diff_change.pv_eq, maps_Range.pv_eq, pvL, List.map_cons, List.map_nil, List.map_append, rune1]; exact ⟨_, _, _, _, _, rfl⟩) | (simp only [diptychlaw18_Cell.pv_eq, api_Attr.pv_eq, api_Node.pv_eq, step_Step.pv_eq, diff_change.pv_eq, maps_Range.pv_eq, pvL, List.map_cons, List.map_nil, List.map_append, rune1, h54, h55]; exact ⟨_, _, _, _, _, rfl⟩)
              · rw [if_neg h55] at hh
                replace h55 := Bool.eq_false_iff.mpr h55
                obtain ⟨x_93, h56, hh⟩ := bind_ex hh
                obtain ⟨h56a, h56b, h56c⟩ := rd_some h56
                have h56d := rd_get (f := api_Node.pv) h56c
                have h56f := rd_more (f := api_Node.pv) h56c
                try simp only [Int.toNat_natCast, Int.reduceToNat] at h56d h56f
                obtain ⟨x_94, h57, hh⟩ := bind_ex hh
                obtain ⟨h57a, h57b, h57c⟩ := rd_some h57
                have h57d := rd_get (f := api_Node.pv) h57c
                have h57f := rd_more (f := api_Node.pv) h57c
                try simp only [Int.toNat_natCast, Int.reduceToNat] at h57d h57f
                obtain ⟨alike_95, h58, hh⟩ := bind_ex hh
                refine awp_first fun K kk hK => ?_
                simp only [go_sem, h54, h54, h55, h56a, h56b, h56d, h56f.1, h56f.2, h57a, h57b, h57d, h57f.1, h57f.2, h55]
                (repeat refine sd ?_)
                refine step_call2 (diff_alike_ok _ _ _ h58) (by (try simp only [go_sem, h54, h54, h55, h56a, h56b, h56d, h56f.1, h56f.2, h57a, h57b, h57d, h57f.1, h57f.2, h55]) <;> exact wkl) (by rfl) (by rfl) ?_
                simp only [go_sem, h54, h54, h55, h56a, h56b, h56d, h56f.1, h56f.2, h57a, h57b, h57d, h57f.1, h57f.2, h55]
                (repeat refine sd ?_)
                refine hK _ _ fun nx => ?_; clear hK K; try clear kk
                by_cases h59 : (!alike_95) = true
                · rw [if_pos h59] at hh
                  refine awp_true (by first | exact congrArg PV.bool h59 | rfl) ?_
                  refine awp_exit ?_; refine nmx ?_
                  refine fragN ?_
                  refine cut_id ?_
                  refine ⟨_, _, _, _, _, _, _, _, _, _, _, _, _, _, _, _, (Option.some.inj hh), ?_⟩
                  first | exact ⟨_, _, _, _, _, rfl⟩ | (simp only [diptychlaw18_Cell.pv_eq, api_Attr.pv_eq, api_Node.pv_eq, step_Step.pv_eq, diff_change.pv_eq, maps_Range.pv_eq, pvL, List.map_cons, List.map_nil, List.map_append, rune1]; exact ⟨_, _, _, _, _, rfl⟩) | (simp only [diptychlaw18_Cell.pv_eq, api_Attr.pv_eq, api_Node.pv_eq, step_Step.pv_eq, diff_change.pv_eq, maps_Range.pv_eq, pvL, List.map_cons, List.map_nil, List.map_append, rune1, h54, h55, h59]; exact ⟨_, _, _, _, _, rfl⟩)
                · rw [if_neg h59] at hh
                  replace h59 := Bool.eq_false_iff.mpr h59
                  refine awp_false (by first | exact congrArg PV.bool h59 | rfl) ?_
                  refine awp_skip ?_; refine nmx ?_
                  obtain ⟨l_96, h60, hh⟩ := bind_ex hh
                  obtain ⟨h60a, h60c⟩ := app_some h60
                  have h60d := app_map (f := (PV.int .i64)) h60c
                  have h60e := app_len h60c
                  try simp only [List.length_cons, List.length_nil, Nat.zero_add, Nat.reduceAdd] at h60a h60e
                  try simp only [h60e] at h60a
                  try simp only [List.map_cons, List.map_nil, List.nil_append, List.append_nil, List.cons_append, List.singleton_append, rune1, diptychlaw18_Cell.pv_eq, api_Attr.pv_eq, api_Node.pv_eq, step_Step.pv_eq, diff_change.pv_eq, maps_Range.pv_eq, pvL] at h60d
                  refine awp_first fun K kk hK => ?_
                  simp only [go_sem, h60a, h60d, h60e]
                  (repeat refine sd ?_)
                  refine hK _ _ fun nx => ?_; clear hK K; try clear kk
                  obtain ⟨s_97, h61, hh⟩ := bind_ex hh
                  obtain ⟨h61a, h61c⟩ := sl_some h61
                  have h61g := sl_le h61a
                  have h61d := sl_map0 (f := api_Node.pv) h61c
                  try simp only [Int.toNat_natCast, Int.reduceToNat, List.map_cons, List.map_nil, diptychlaw18_Cell.pv_eq, api_Attr.pv_eq, api_Node.pv_eq, step_Step.pv_eq, diff_change.pv_eq, maps_Range.pv_eq, pvL] at h61d
                  obtain ⟨total_98, h62, hh⟩ := bind_ex hh
                  refine awp_first fun K kk hK => ?_
                  simp only [go_sem, h61a.1, h61a.2.1, h61a.2.2, h61d, h61g]
                  (repeat refine sd ?_)
                  refine step_call2 (node_Total_ok _ _ h62) (by (try simp only [go_sem, h61a.1, h61a.2.1, h61a.2.2, h61d, h61g]) <;> exact wkl) (by rfl) (by rfl) ?_
                  simp only [go_sem, h61a.1, h61a.2.1, h61a.2.2, h61d, h61g]
                  (repeat refine sd ?_)
                  refine hK _ _ fun nx => ?_; clear hK K; try clear kk
                  refine awp_region fun K kk hK => ?_
                  simp only [go_sem, h56a, h56b, h56d, h56f.1, h56f.2, h57a, h57b, h57d, h57f.1, h57f.2]
                  (repeat refine sd ?_)
                  refine hK _ _ fun nx => ?_; clear hK K; try clear kk
                  refine nmx ?_
                  have ih' := ih _ _ _ _ _ _ _ _ _ _ _ _ _ _ _ _ hh nx
                  refine cut_id ?_
                  first | exact ih' _ _ _ | (simp only [diptychlaw18_Cell.pv_eq, api_Attr.pv_eq, api_Node.pv_eq, step_Step.pv_eq, diff_change.pv_eq, maps_Range.pv_eq, pvL, List.map_cons, List.map_nil, List.map_append, rune1, h60e] at ih' ⊢; exact ih' _ _ _) | (simp only [diptychlaw18_Cell.pv_eq, api_Attr.pv_eq, api_Node.pv_eq, step_Step.pv_eq, diff_change.pv_eq, maps_Range.pv_eq, pvL, List.map_cons, List.map_nil, List.map_append, rune1, h60e, h54, h55, h59] at ih' ⊢; exact ih' _ _ _)
          · intro i s h; exact h.elim
          · intro s h; exact h.elim
        · intro i s h; exact h.elim
        · intro s h; exact h.elim
    exact key _ _ _ _ _ _ _ _ _ _ _ _ _ _ _ _ _ f0 _ _ _ _
  · rintro s ⟨x_99, y_100, c_102, c_103, c_104, c_105, c_106, c_107, c_108, c_109, c_110, c_111, c_112, c_113, v_114, v_115, rfl, v_101, nx, g12, g394, g399, rfl⟩
    try dsimp only at hh
    refine awp_first fun K kk hK => ?_
    simp only [go_sem]
    refine hK _ _ fun nx => ?_; clear hK K; try clear kk
    refine awp_ret ?_; refine nmx ?_
    obtain hR := Option.some.inj hh
    subst hR
    refine ret_ownV (pre := [.str c_102, .str c_103, .list 1 (c_104.map PV.str), .list 2 (c_105.map api_Attr.pv), .list 5 (x_99.map api_Node.pv), .str c_106, .str c_107, .list 1 (c_108.map PV.str), .list 2 (c_109.map api_Attr.pv), .list 5 (y_100.map api_Node.pv), .list 1 (v_114.map (PV.int .i64)), .int .i64 c_110, .int .i64 c_111, .int .i64 c_112, .int .i64 c_113]) (post := []) (kr := 399) (by rfl) (by rfl) (by rfl) (by decide) (by rfl) (by rfl) (by rfl) (by rfl) ?_
    exact ⟨by first | rfl | simp only [List.length_map], by first | rfl | (simp only [diptychlaw18_Cell.pv_eq, api_Attr.pv_eq, api_Node.pv_eq, step_Step.pv_eq, diff_change.pv_eq, maps_Range.pv_eq, pvL, List.map_cons, List.map_nil, List.map_append, rune1]; done) | (simp only [diptychlaw18_Cell.pv_eq, api_Attr.pv_eq, api_Node.pv_eq, step_Step.pv_eq, diff_change.pv_eq, maps_Range.pv_eq, pvL, List.map_cons, List.map_nil, List.map_append, rune1]; rfl)⟩
  · intro i s h; exact h.elim
  · intro s h; exact h.elim

end Go.Proofs.YtpjdafhmneiohaaDoor
