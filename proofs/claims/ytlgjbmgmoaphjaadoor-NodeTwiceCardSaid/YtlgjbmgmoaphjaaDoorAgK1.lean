/- What the functions answer, the program answers (1). -/
import Derived.Test.YtlgjbmgmoaphjaaDoorAgC
import Derived.Test.YtlgjbmgmoaphjaaDoorAgF
import Derived.Test.YtlgjbmgmoaphjaaDoorAgK0
namespace Go.Proofs.YtlgjbmgmoaphjaaDoor
set_option linter.unusedSimpArgs false
set_option linter.unusedVariables false
open Go
set_option maxRecDepth 100000

theorem node_formed_grp : ∀ kr : Nat, (∀ (n_1 : api_Node) (R : Bool), node_formed_k kr n_1 = some R → PC Tryd.prog 62 [.agg [.str n_1.Kind, .str n_1.Text, .list 1 (n_1.Marks.map PV.str), .list 2 (n_1.Attrs.map api_Attr.pv), .list 5 (n_1.Kids.map api_Node.pv)]] (.bool R)) := by
  intro kr
  induction kr with
  | zero => exact (by intro n_1 R hh; rw [node_formed_k] at hh; cases hh)
  | succ kr ih =>
    have ih_node_formed := ih
    clear ih
    intro n_1 R hh
    rw [node_formed_k] at hh
    refine start_node_formed rfl ?_
    refine awp_first fun K kk hK => ?_
    simp only [go_sem]
    refine hK _ _ fun nx => ?_; clear hK K; try clear kk
    refine awp_seq ?_
    obtain ⟨istext_2, h1, hh⟩ := bind_ex hh
    refine awp_first fun K kk hK => ?_
    simp only [go_sem]
    refine step_call2 (node_isText_ok _ _ h1) (by try simp only [go_sem]; (repeat (first | exact WkL.refl _ | exact Wk.refl _ | exact Wk.nil _ | refine WkL.cons _ _ _ _ ?_ ?_ | exact WkL.nil | refine Wk.agg _ _ ?_ | refine Wk.tup _ _ ?_))) (by rfl) (by rfl) ?_
    simp only [go_sem]
    refine hK _ _ fun nx => ?_; clear hK K; try clear kk
    by_cases h2 : (istext_2) = true
    · rw [if_pos h2] at hh
      refine awp_true (by first | exact congrArg PV.bool h2 | rfl) ?_
      by_cases h3 : (!(n_1.Text == ([] : Str))) = true
      · rw [if_pos h3] at hh
        obtain ⟨valids_3, h4, hh⟩ := bind_ex hh
        by_cases h5 : (valids_3) = true
        · rw [if_pos h5] at hh
          obtain ⟨rise_4, h6, hh⟩ := bind_ex hh
          by_cases h7 : (rise_4) = true
          · rw [if_pos h7] at hh
            refine awp_first fun K kk hK => ?_
            simp only [go_sem, h3, h3, h5, h5, h7, h7]
            (repeat (refine And.intro ?_ ?_; focus (first | assumption | (try simp only [List.length_append, List.length_cons, List.length_nil] at *; omega))))
            refine step_call2 (unicode_utf8_ValidString_ok _ _ h4) (by try simp only [go_sem, h3, h3, h5, h5, h7, h7]; (repeat (first | exact WkL.refl _ | exact Wk.refl _ | exact Wk.nil _ | refine WkL.cons _ _ _ _ ?_ ?_ | exact WkL.nil | refine Wk.agg _ _ ?_ | refine Wk.tup _ _ ?_))) (by rfl) (by rfl) ?_
            simp only [go_sem, h3, h3, h5, h5, h7, h7]
            (repeat (refine And.intro ?_ ?_; focus (first | assumption | (try simp only [List.length_append, List.length_cons, List.length_nil] at *; omega))))
            refine step_call2 (node_rise_ok _ _ h6) (by try simp only [go_sem, h3, h3, h5, h5, h7, h7]; (repeat (first | exact WkL.refl _ | exact Wk.refl _ | exact Wk.nil _ | refine WkL.cons _ _ _ _ ?_ ?_ | exact WkL.nil | refine Wk.agg _ _ ?_ | refine Wk.tup _ _ ?_))) (by rfl) (by rfl) ?_
            simp only [go_sem, h3, h3, h5, h5, h7, h7]
            (repeat (refine And.intro ?_ ?_; focus (first | assumption | (try simp only [List.length_append, List.length_cons, List.length_nil] at *; omega))))
            refine hK _ _ fun nx => ?_; clear hK K; try clear kk
            refine awp_ret ?_; (repeat (with_reducible first | refine then_n ?_ | refine then_r ?_ | refine then_e ?_ | refine block_n ?_ | refine block_r ?_ | refine exit_here ?_ | refine exit_on rfl ?_ | refine scope_n ?_ | refine scope_r ?_ | refine scope_e ?_ | refine cut_awp ?_))
            obtain hR := Option.some.inj hh
            subst hR
            refine ret_pure2 ?_ (by rfl)
            simp only [go_sem, rvsRes, rvRes, cellRes, tupOf, pur2, List.map_cons, List.map_append, List.head?_cons]
            (repeat (first | exact Wk.refl _ | exact WkL.refl _ | exact Wk.nil _ | refine Wk.agg _ _ ?_ | refine Wk.tup _ _ ?_ | refine WkL.cons _ _ _ _ ?_ ?_ | exact WkL.nil))
          · rw [if_neg h7] at hh
            replace h7 := Bool.eq_false_iff.mpr h7
            refine awp_first fun K kk hK => ?_
            simp only [go_sem, h3, h3, h5, h5, h7, h7]
            (repeat (refine And.intro ?_ ?_; focus (first | assumption | (try simp only [List.length_append, List.length_cons, List.length_nil] at *; omega))))
            refine step_call2 (unicode_utf8_ValidString_ok _ _ h4) (by try simp only [go_sem, h3, h3, h5, h5, h7, h7]; (repeat (first | exact WkL.refl _ | exact Wk.refl _ | exact Wk.nil _ | refine WkL.cons _ _ _ _ ?_ ?_ | exact WkL.nil | refine Wk.agg _ _ ?_ | refine Wk.tup _ _ ?_))) (by rfl) (by rfl) ?_
            simp only [go_sem, h3, h3, h5, h5, h7, h7]
            (repeat (refine And.intro ?_ ?_; focus (first | assumption | (try simp only [List.length_append, List.length_cons, List.length_nil] at *; omega))))
            refine step_call2 (node_rise_ok _ _ h6) (by try simp only [go_sem, h3, h3, h5, h5, h7, h7]; (repeat (first | exact WkL.refl _ | exact Wk.refl _ | exact Wk.nil _ | refine WkL.cons _ _ _ _ ?_ ?_ | exact WkL.nil | refine Wk.agg _ _ ?_ | refine Wk.tup _ _ ?_))) (by rfl) (by rfl) ?_
            simp only [go_sem, h3, h3, h5, h5, h7, h7]
            (repeat (refine And.intro ?_ ?_; focus (first | assumption | (try simp only [List.length_append, List.length_cons, List.length_nil] at *; omega))))
            refine hK _ _ fun nx => ?_; clear hK K; try clear kk
            refine awp_ret ?_; (repeat (with_reducible first | refine then_n ?_ | refine then_r ?_ | refine then_e ?_ | refine block_n ?_ | refine block_r ?_ | refine exit_here ?_ | refine exit_on rfl ?_ | refine scope_n ?_ | refine scope_r ?_ | refine scope_e ?_ | refine cut_awp ?_))
            obtain hR := Option.some.inj hh
            subst hR
            refine ret_pure2 ?_ (by rfl)
            simp only [go_sem, rvsRes, rvRes, cellRes, tupOf, pur2, List.map_cons, List.map_append, List.head?_cons]
            (repeat (first | exact Wk.refl _ | exact WkL.refl _ | exact Wk.nil _ | refine Wk.agg _ _ ?_ | refine Wk.tup _ _ ?_ | refine WkL.cons _ _ _ _ ?_ ?_ | exact WkL.nil))
        · rw [if_neg h5] at hh
          replace h5 := Bool.eq_false_iff.mpr h5
          refine awp_first fun K kk hK => ?_
          simp only [go_sem, h3, h3, h5, h5]
          (repeat (refine And.intro ?_ ?_; focus (first | assumption | (try simp only [List.length_append, List.length_cons, List.length_nil] at *; omega))))
          refine step_call2 (unicode_utf8_ValidString_ok _ _ h4) (by try simp only [go_sem, h3, h3, h5, h5]; (repeat (first | exact WkL.refl _ | exact Wk.refl _ | exact Wk.nil _ | refine WkL.cons _ _ _ _ ?_ ?_ | exact WkL.nil | refine Wk.agg _ _ ?_ | refine Wk.tup _ _ ?_))) (by rfl) (by rfl) ?_
          simp only [go_sem, h3, h3, h5, h5]
          (repeat (refine And.intro ?_ ?_; focus (first | assumption | (try simp only [List.length_append, List.length_cons, List.length_nil] at *; omega))))
          refine hK _ _ fun nx => ?_; clear hK K; try clear kk
          refine awp_ret ?_; (repeat (with_reducible first | refine then_n ?_ | refine then_r ?_ | refine then_e ?_ | refine block_n ?_ | refine block_r ?_ | refine exit_here ?_ | refine exit_on rfl ?_ | refine scope_n ?_ | refine scope_r ?_ | refine scope_e ?_ | refine cut_awp ?_))
          obtain hR := Option.some.inj hh
          subst hR
          refine ret_pure2 ?_ (by rfl)
          simp only [go_sem, rvsRes, rvRes, cellRes, tupOf, pur2, List.map_cons, List.map_append, List.head?_cons]
          (repeat (first | exact Wk.refl _ | exact WkL.refl _ | exact Wk.nil _ | refine Wk.agg _ _ ?_ | refine Wk.tup _ _ ?_ | refine WkL.cons _ _ _ _ ?_ ?_ | exact WkL.nil))
      · rw [if_neg h3] at hh
        replace h3 := Bool.eq_false_iff.mpr h3
        refine awp_first fun K kk hK => ?_
        simp only [go_sem, h3, h3]
        (repeat (refine And.intro ?_ ?_; focus (first | assumption | (try simp only [List.length_append, List.length_cons, List.length_nil] at *; omega))))
        refine hK _ _ fun nx => ?_; clear hK K; try clear kk
        refine awp_ret ?_; (repeat (with_reducible first | refine then_n ?_ | refine then_r ?_ | refine then_e ?_ | refine block_n ?_ | refine block_r ?_ | refine exit_here ?_ | refine exit_on rfl ?_ | refine scope_n ?_ | refine scope_r ?_ | refine scope_e ?_ | refine cut_awp ?_))
        obtain hR := Option.some.inj hh
        subst hR
        refine ret_pure2 ?_ (by rfl)
        simp only [go_sem, rvsRes, rvRes, cellRes, tupOf, pur2, List.map_cons, List.map_append, List.head?_cons]
        (repeat (first | exact Wk.refl _ | exact WkL.refl _ | exact Wk.nil _ | refine Wk.agg _ _ ?_ | refine Wk.tup _ _ ?_ | refine WkL.cons _ _ _ _ ?_ ?_ | exact WkL.nil))
    · rw [if_neg h2] at hh
      replace h2 := Bool.eq_false_iff.mpr h2
      refine awp_false (by first | exact congrArg PV.bool h2 | rfl) ?_
      refine awp_skip ?_; (repeat (with_reducible first | refine then_n ?_ | refine then_r ?_ | refine then_e ?_ | refine block_n ?_ | refine block_r ?_ | refine exit_here ?_ | refine exit_on rfl ?_ | refine scope_n ?_ | refine scope_r ?_ | refine scope_e ?_ | refine cut_awp ?_))
      refine awp_first fun K kk hK => ?_
      simp only [go_sem]
      refine hK _ _ fun nx => ?_; clear hK K; try clear kk
      refine awp_seq ?_
      refine awp_first fun K kk hK => ?_
      simp only [go_sem]
      refine hK _ _ fun nx => ?_; clear hK K; try clear kk
      obtain ⟨e0, f0, hh⟩ := bind_ex hh
      obtain ⟨hlen0, f0⟩ := chk_some f0
      refine awp_fragE (CutTo (fun s => ∃ names_19, .inr names_19 = e0 ∧ ∃ (v_17 : Int) (v_18 : Bool) (nx : Nat) (g1 : Nat) (g3 : Nat), s = ⟨[(1, .box 1 g1 0), (3, .row 3 g3 names_19.length), (34, .list 2 (n_1.Attrs.map api_Attr.pv)), (35, .int .i64 (n_1.Attrs.length : Int)), (36, .int .i64 v_17), (37, .bool v_18)], [(1, g1, .var 27 [.str n_1.Kind, .str n_1.Text, .list 1 (n_1.Marks.map PV.str), .list 2 (n_1.Attrs.map api_Attr.pv), .list 5 (n_1.Kids.map api_Node.pv)]), (3, g3, .row false 1 (names_19.map PV.str))], nx⟩))
        (fun i s => False)
        (fun s => ∃ res_16, .inl res_16 = e0 ∧ bodyR Tryd.prog [.tmp 2] (.bool res_16) [] .ret s) ?_ ?_ ?_ ?_
      · refine awp_block ?_
        refine awp_loopJ fun I hI => ?_
        have key : ∀ (suf pre : List api_Attr) (v_8 : Int) (names_9 : (List Str)), n_1.Attrs = pre ++ suf → v_8 = (pre.length : Int) → node_formed_l0 suf v_8 names_9 = some e0 → ∀ (nx : Nat) (g1 : Nat) (g3 : Nat), I ⟨[(1, .box 1 g1 0), (3, .row 3 g3 names_9.length), (34, .list 2 (n_1.Attrs.map api_Attr.pv)), (35, .int .i64 (n_1.Attrs.length : Int)), (36, .int .i64 v_8)], [(1, g1, .var 27 [.str n_1.Kind, .str n_1.Text, .list 1 (n_1.Marks.map PV.str), .list 2 (n_1.Attrs.map api_Attr.pv), .list 5 (n_1.Kids.map api_Node.pv)]), (3, g3, .row false 1 (names_9.map PV.str))], nx⟩ := by
          intro suf
          induction suf with
          | nil =>
            intro pre v_8 names_9 hsplit hidx hh nx g1 g3
            rw [node_formed_l0] at hh
            refine hI _ ?_
            have h18 := walk_nil hsplit hidx
            refine awp_first fun K kk hK => ?_
            simp only [go_sem]
            refine hK _ _ fun nx => ?_; clear hK K; try clear kk
            refine awp_seq ?_
            refine awp_false (by first | exact congrArg PV.bool h18 | rfl) ?_
            refine awp_exit ?_; (repeat (with_reducible first | refine then_n ?_ | refine then_r ?_ | refine then_e ?_ | refine block_n ?_ | refine block_r ?_ | refine exit_here ?_ | refine exit_on rfl ?_ | refine scope_n ?_ | refine scope_r ?_ | refine scope_e ?_ | refine cut_awp ?_))
            refine fragN ?_
            refine cut_id ?_
            refine ⟨_, (Option.some.inj hh), ?_⟩
            first | exact ⟨_, _, _, _, _, rfl⟩ | (simp only [diptychlaw1_Cell.pv_eq, api_Attr.pv_eq, api_Node.pv_eq, pvL, List.map_cons, List.map_nil, List.map_append, rune1]; exact ⟨_, _, _, _, _, rfl⟩)
          | cons y_13 suf ih =>
            intro pre v_8 names_9 hsplit hidx hh nx g1 g3
            rw [node_formed_l0] at hh
            refine hI _ ?_
            obtain ⟨hl0a, hl0b, hl0d, hl0w, h18⟩ := walk_cons (f := api_Attr.pv) hsplit hidx hlen0
            refine awp_first fun K kk hK => ?_
            simp only [go_sem]
            refine hK _ _ fun nx => ?_; clear hK K; try clear kk
            refine awp_seq ?_
            refine awp_true (by first | exact congrArg PV.bool h18 | rfl) ?_
            refine awp_skip ?_; (repeat (with_reducible first | refine then_n ?_ | refine then_r ?_ | refine then_e ?_ | refine block_n ?_ | refine block_r ?_ | refine exit_here ?_ | refine exit_on rfl ?_ | refine scope_n ?_ | refine scope_r ?_ | refine scope_e ?_ | refine cut_awp ?_))
            refine awp_seq ?_
            refine awp_block ?_
            refine awp_first fun K kk hK => ?_
            simp only [go_sem, hl0a, hl0b, hl0d, hl0w]
            refine hK _ _ fun nx => ?_; clear hK K; try clear kk
            refine awp_seq ?_
            obtain ⟨value_14, h19, hh⟩ := bind_ex hh
            refine awp_first fun K kk hK => ?_
            simp only [go_sem, hl0a, hl0b, hl0d, hl0w]
            refine step_call2 (node_Value_ok _ _ h19) (by try simp only [go_sem, hl0a, hl0b, hl0d, hl0w]; (repeat (first | exact WkL.refl _ | exact Wk.refl _ | exact Wk.nil _ | refine WkL.cons _ _ _ _ ?_ ?_ | exact WkL.nil | refine Wk.agg _ _ ?_ | refine Wk.tup _ _ ?_))) (by rfl) (by rfl) ?_
            simp only [go_sem, hl0a, hl0b, hl0d, hl0w]
            refine hK _ _ fun nx => ?_; clear hK K; try clear kk
            by_cases h20 : (!value_14) = true
            · rw [if_pos h20] at hh
              refine awp_true (by first | exact congrArg PV.bool h20 | rfl) ?_
              refine awp_first fun K kk hK => ?_
              simp only [go_sem, hl0a, hl0b, hl0d, hl0w]
              refine hK _ _ fun nx => ?_; clear hK K; try clear kk
              refine awp_ret ?_; (repeat (with_reducible first | refine then_n ?_ | refine then_r ?_ | refine then_e ?_ | refine block_n ?_ | refine block_r ?_ | refine exit_here ?_ | refine exit_on rfl ?_ | refine scope_n ?_ | refine scope_r ?_ | refine scope_e ?_ | refine cut_awp ?_))
              refine fragR ⟨_, (Option.some.inj hh), ?_⟩
              refine ret_pure2 ?_ (by rfl)
              simp only [go_sem, rvsRes, rvRes, cellRes, tupOf, pur2, List.map_cons, List.map_append, List.head?_cons]
              (repeat (first | exact Wk.refl _ | exact WkL.refl _ | exact Wk.nil _ | refine Wk.agg _ _ ?_ | refine Wk.tup _ _ ?_ | refine WkL.cons _ _ _ _ ?_ ?_ | exact WkL.nil))
            · rw [if_neg h20] at hh
              replace h20 := Bool.eq_false_iff.mpr h20
              refine awp_false (by first | exact congrArg PV.bool h20 | rfl) ?_
              refine awp_skip ?_; (repeat (with_reducible first | refine then_n ?_ | refine then_r ?_ | refine then_e ?_ | refine block_n ?_ | refine block_r ?_ | refine exit_here ?_ | refine exit_on rfl ?_ | refine scope_n ?_ | refine scope_r ?_ | refine scope_e ?_ | refine cut_awp ?_))
              obtain ⟨l_15, h21, hh⟩ := bind_ex hh
              obtain ⟨h21a, h21c⟩ := app_some h21
              have h21d := app_map (f := PV.str) h21c
              have h21e := app_len h21c
              try simp only [List.length_cons, List.length_nil, Nat.zero_add, Nat.reduceAdd] at h21a h21e
              try simp only [h21e] at h21a
              try simp only [List.map_cons, List.map_nil, List.nil_append, List.append_nil, List.cons_append, List.singleton_append, rune1, diptychlaw1_Cell.pv_eq, api_Attr.pv_eq, api_Node.pv_eq, pvL] at h21d
              refine awp_region fun K kk hK => ?_
              simp only [go_sem, h21a, h21d, h21e, hl0a, hl0b, hl0d, hl0w]
              (repeat (refine And.intro ?_ ?_; focus (first | assumption | (try simp only [List.length_append, List.length_cons, List.length_nil] at *; omega))))
              refine hK _ _ fun nx => ?_; clear hK K; try clear kk
              (repeat (with_reducible first | refine then_n ?_ | refine then_r ?_ | refine then_e ?_ | refine block_n ?_ | refine block_r ?_ | refine exit_here ?_ | refine exit_on rfl ?_ | refine scope_n ?_ | refine scope_r ?_ | refine scope_e ?_ | refine cut_awp ?_))
              refine awp_region fun K kk hK => ?_
              simp only [go_sem, hl0a, hl0b, hl0d, hl0w]
              refine hK _ _ fun nx => ?_; clear hK K; try clear kk
              (repeat (with_reducible first | refine then_n ?_ | refine then_r ?_ | refine then_e ?_ | refine block_n ?_ | refine block_r ?_ | refine exit_here ?_ | refine exit_on rfl ?_ | refine scope_n ?_ | refine scope_r ?_ | refine scope_e ?_ | refine cut_awp ?_))
              have ih' := ih (pre ++ [y_13]) (v_8 + 1) _ (by rw [hsplit]; simp) (by simp [hidx]) hh nx
              refine cut_id ?_
              first | exact ih' _ _ | (simp only [diptychlaw1_Cell.pv_eq, api_Attr.pv_eq, api_Node.pv_eq, pvL, List.map_cons, List.map_nil, List.map_append, rune1, h21e] at ih' ⊢; exact ih' _ _)
        exact key n_1.Attrs [] _ _ rfl rfl f0 _ _ _
      · rintro s ⟨t, hless, names_19, rfl, v_17, v_18, nx, g1, g3, rfl⟩
        try dsimp only at hh
        (repeat (with_reducible first | refine then_n ?_ | refine then_r ?_ | refine then_e ?_ | refine block_n ?_ | refine block_r ?_ | refine exit_here ?_ | refine exit_on rfl ?_ | refine scope_n ?_ | refine scope_r ?_ | refine scope_e ?_))
        first | (refine cut_less hless ?_; try refine cut_awp ?_) | refine frag_less hless ?_ | refine body_less hless ?_
        refine awp_seq ?_
        obtain ⟨name_20, h22, hh⟩ := bind_ex hh
        by_cases h23 : (!name_20) = true
        · rw [if_pos h23] at hh
          refine awp_first fun K kk hK => ?_
          simp only [go_sem, h23, h23]
          (repeat (refine And.intro ?_ ?_; focus (first | assumption | (try simp only [List.length_append, List.length_cons, List.length_nil] at *; omega))))
          refine step_call2 (node_Name_ok _ _ h22) (by try simp only [go_sem, h23, h23]; (repeat (first | exact WkL.refl _ | exact Wk.refl _ | exact Wk.nil _ | refine WkL.cons _ _ _ _ ?_ ?_ | exact WkL.nil | refine Wk.agg _ _ ?_ | refine Wk.tup _ _ ?_))) (by rfl) (by rfl) ?_
          simp only [go_sem, h23, h23]
          (repeat (refine And.intro ?_ ?_; focus (first | assumption | (try simp only [List.length_append, List.length_cons, List.length_nil] at *; omega))))
          refine hK _ _ fun nx => ?_; clear hK K; try clear kk
          refine awp_true rfl ?_
          refine awp_first fun K kk hK => ?_
          simp only [go_sem]
          refine hK _ _ fun nx => ?_; clear hK K; try clear kk
          refine awp_ret ?_; (repeat (with_reducible first | refine then_n ?_ | refine then_r ?_ | refine then_e ?_ | refine block_n ?_ | refine block_r ?_ | refine exit_here ?_ | refine exit_on rfl ?_ | refine scope_n ?_ | refine scope_r ?_ | refine scope_e ?_ | refine cut_awp ?_))
          obtain hR := Option.some.inj hh
          subst hR
          refine ret_pure2 ?_ (by rfl)
          simp only [go_sem, rvsRes, rvRes, cellRes, tupOf, pur2, List.map_cons, List.map_append, List.head?_cons]
          (repeat (first | exact Wk.refl _ | exact WkL.refl _ | exact Wk.nil _ | refine Wk.agg _ _ ?_ | refine Wk.tup _ _ ?_ | refine WkL.cons _ _ _ _ ?_ ?_ | exact WkL.nil))
        · rw [if_neg h23] at hh
          replace h23 := Bool.eq_false_iff.mpr h23
          by_cases h24 : (!(n_1.Text == ([] : Str))) = true
          · rw [if_pos h24] at hh
            refine awp_first fun K kk hK => ?_
            simp only [go_sem, h23, h23, h24, h24]
            (repeat (refine And.intro ?_ ?_; focus (first | assumption | (try simp only [List.length_append, List.length_cons, List.length_nil] at *; omega))))
            refine step_call2 (node_Name_ok _ _ h22) (by try simp only [go_sem, h23, h23, h24, h24]; (repeat (first | exact WkL.refl _ | exact Wk.refl _ | exact Wk.nil _ | refine WkL.cons _ _ _ _ ?_ ?_ | exact WkL.nil | refine Wk.agg _ _ ?_ | refine Wk.tup _ _ ?_))) (by rfl) (by rfl) ?_
            simp only [go_sem, h23, h23, h24, h24]
            (repeat (refine And.intro ?_ ?_; focus (first | assumption | (try simp only [List.length_append, List.length_cons, List.length_nil] at *; omega))))
            refine hK _ _ fun nx => ?_; clear hK K; try clear kk
            refine awp_true rfl ?_
            refine awp_first fun K kk hK => ?_
            simp only [go_sem]
            refine hK _ _ fun nx => ?_; clear hK K; try clear kk
            refine awp_ret ?_; (repeat (with_reducible first | refine then_n ?_ | refine then_r ?_ | refine then_e ?_ | refine block_n ?_ | refine block_r ?_ | refine exit_here ?_ | refine exit_on rfl ?_ | refine scope_n ?_ | refine scope_r ?_ | refine scope_e ?_ | refine cut_awp ?_))
            obtain hR := Option.some.inj hh
            subst hR
            refine ret_pure2 ?_ (by rfl)
            simp only [go_sem, rvsRes, rvRes, cellRes, tupOf, pur2, List.map_cons, List.map_append, List.head?_cons]
            (repeat (first | exact Wk.refl _ | exact WkL.refl _ | exact Wk.nil _ | refine Wk.agg _ _ ?_ | refine Wk.tup _ _ ?_ | refine WkL.cons _ _ _ _ ?_ ?_ | exact WkL.nil))
          · rw [if_neg h24] at hh
            replace h24 := Bool.eq_false_iff.mpr h24
            by_cases h25 : (decide ((n_1.Marks.length : Int) > (0 : Int))) = true
            · rw [if_pos h25] at hh
              refine awp_first fun K kk hK => ?_
              simp only [go_sem, h23, h23, h24, h24, h25, of_decide_eq_true h25, h25, of_decide_eq_true h25]
              (repeat (refine And.intro ?_ ?_; focus (first | assumption | (try simp only [List.length_append, List.length_cons, List.length_nil] at *; omega))))
              refine step_call2 (node_Name_ok _ _ h22) (by try simp only [go_sem, h23, h23, h24, h24, h25, of_decide_eq_true h25, h25, of_decide_eq_true h25]; (repeat (first | exact WkL.refl _ | exact Wk.refl _ | exact Wk.nil _ | refine WkL.cons _ _ _ _ ?_ ?_ | exact WkL.nil | refine Wk.agg _ _ ?_ | refine Wk.tup _ _ ?_))) (by rfl) (by rfl) ?_
              simp only [go_sem, h23, h23, h24, h24, h25, of_decide_eq_true h25, h25, of_decide_eq_true h25]
              (repeat (refine And.intro ?_ ?_; focus (first | assumption | (try simp only [List.length_append, List.length_cons, List.length_nil] at *; omega))))
              refine hK _ _ fun nx => ?_; clear hK K; try clear kk
              refine awp_true rfl ?_
              refine awp_first fun K kk hK => ?_
              simp only [go_sem]
              refine hK _ _ fun nx => ?_; clear hK K; try clear kk
              refine awp_ret ?_; (repeat (with_reducible first | refine then_n ?_ | refine then_r ?_ | refine then_e ?_ | refine block_n ?_ | refine block_r ?_ | refine exit_here ?_ | refine exit_on rfl ?_ | refine scope_n ?_ | refine scope_r ?_ | refine scope_e ?_ | refine cut_awp ?_))
              obtain hR := Option.some.inj hh
              subst hR
              refine ret_pure2 ?_ (by rfl)
              simp only [go_sem, rvsRes, rvRes, cellRes, tupOf, pur2, List.map_cons, List.map_append, List.head?_cons]
              (repeat (first | exact Wk.refl _ | exact WkL.refl _ | exact Wk.nil _ | refine Wk.agg _ _ ?_ | refine Wk.tup _ _ ?_ | refine WkL.cons _ _ _ _ ?_ ?_ | exact WkL.nil))
            · rw [if_neg h25] at hh
              replace h25 := Bool.eq_false_iff.mpr h25
              obtain ⟨rise_21, h26, hh⟩ := bind_ex hh
              refine awp_first fun K kk hK => ?_
              simp only [go_sem, h23, h23, h24, h24, h25, of_decide_eq_false h25, h25, of_decide_eq_false h25]
              (repeat (refine And.intro ?_ ?_; focus (first | assumption | (try simp only [List.length_append, List.length_cons, List.length_nil] at *; omega))))
              refine step_call2 (node_Name_ok _ _ h22) (by try simp only [go_sem, h23, h23, h24, h24, h25, of_decide_eq_false h25, h25, of_decide_eq_false h25]; (repeat (first | exact WkL.refl _ | exact Wk.refl _ | exact Wk.nil _ | refine WkL.cons _ _ _ _ ?_ ?_ | exact WkL.nil | refine Wk.agg _ _ ?_ | refine Wk.tup _ _ ?_))) (by rfl) (by rfl) ?_
              simp only [go_sem, h23, h23, h24, h24, h25, of_decide_eq_false h25, h25, of_decide_eq_false h25]
              (repeat (refine And.intro ?_ ?_; focus (first | assumption | (try simp only [List.length_append, List.length_cons, List.length_nil] at *; omega))))
              refine step_call2 (node_rise_ok _ _ h26) (by try simp only [go_sem, h23, h23, h24, h24, h25, of_decide_eq_false h25, h25, of_decide_eq_false h25]; (repeat (first | exact WkL.refl _ | exact Wk.refl _ | exact Wk.nil _ | refine WkL.cons _ _ _ _ ?_ ?_ | exact WkL.nil | refine Wk.agg _ _ ?_ | refine Wk.tup _ _ ?_))) (by rfl) (by rfl) ?_
              simp only [go_sem, h23, h23, h24, h24, h25, of_decide_eq_false h25, h25, of_decide_eq_false h25]
              (repeat (refine And.intro ?_ ?_; focus (first | assumption | (try simp only [List.length_append, List.length_cons, List.length_nil] at *; omega))))
              refine hK _ _ fun nx => ?_; clear hK K; try clear kk
              by_cases h27 : (!rise_21) = true
              · rw [if_pos h27] at hh
                refine awp_true (by first | exact congrArg PV.bool h27 | rfl) ?_
                refine awp_first fun K kk hK => ?_
                simp only [go_sem]
                refine hK _ _ fun nx => ?_; clear hK K; try clear kk
                refine awp_ret ?_; (repeat (with_reducible first | refine then_n ?_ | refine then_r ?_ | refine then_e ?_ | refine block_n ?_ | refine block_r ?_ | refine exit_here ?_ | refine exit_on rfl ?_ | refine scope_n ?_ | refine scope_r ?_ | refine scope_e ?_ | refine cut_awp ?_))
                obtain hR := Option.some.inj hh
                subst hR
                refine ret_pure2 ?_ (by rfl)
                simp only [go_sem, rvsRes, rvRes, cellRes, tupOf, pur2, List.map_cons, List.map_append, List.head?_cons]
                (repeat (first | exact Wk.refl _ | exact WkL.refl _ | exact Wk.nil _ | refine Wk.agg _ _ ?_ | refine Wk.tup _ _ ?_ | refine WkL.cons _ _ _ _ ?_ ?_ | exact WkL.nil))
              · rw [if_neg h27] at hh
                replace h27 := Bool.eq_false_iff.mpr h27
                refine awp_false (by first | exact congrArg PV.bool h27 | rfl) ?_
                refine awp_skip ?_; (repeat (with_reducible first | refine then_n ?_ | refine then_r ?_ | refine then_e ?_ | refine block_n ?_ | refine block_r ?_ | refine exit_here ?_ | refine exit_on rfl ?_ | refine scope_n ?_ | refine scope_r ?_ | refine scope_e ?_ | refine cut_awp ?_))
                refine awp_seq ?_
                refine awp_first fun K kk hK => ?_
                simp only [go_sem]
                refine hK _ _ fun nx => ?_; clear hK K; try clear kk
                obtain ⟨e1, f1, hh⟩ := bind_ex hh
                obtain ⟨hlen1, f1⟩ := chk_some f1
                refine awp_fragE (CutTo (fun s => .inr () = e1 ∧ ∃ (v_36 : Int) (v_37 : Bool) (nx : Nat) (g1 : Nat), s = ⟨[(1, .box 1 g1 0), (71, .list 5 (n_1.Kids.map api_Node.pv)), (72, .int .i64 (n_1.Kids.length : Int)), (73, .int .i64 v_36), (74, .bool v_37)], [(1, g1, .var 27 [.str n_1.Kind, .str n_1.Text, .list 1 (n_1.Marks.map PV.str), .list 2 (n_1.Attrs.map api_Attr.pv), .list 5 (n_1.Kids.map api_Node.pv)])], nx⟩))
                  (fun i s => False)
                  (fun s => ∃ res_35, .inl res_35 = e1 ∧ bodyR Tryd.prog [.tmp 2] (.bool res_35) [] .ret s) ?_ ?_ ?_ ?_
                · refine awp_block ?_
                  refine awp_loopJ fun I hI => ?_
                  have key : ∀ (suf pre : List api_Node) (v_26 : Int), n_1.Kids = pre ++ suf → v_26 = (pre.length : Int) → node_formed_l1 n_1 (node_formed_k kr) suf v_26 = some e1 → ∀ (nx : Nat) (g1 : Nat), I ⟨[(1, .box 1 g1 0), (71, .list 5 (n_1.Kids.map api_Node.pv)), (72, .int .i64 (n_1.Kids.length : Int)), (73, .int .i64 v_26)], [(1, g1, .var 27 [.str n_1.Kind, .str n_1.Text, .list 1 (n_1.Marks.map PV.str), .list 2 (n_1.Attrs.map api_Attr.pv), .list 5 (n_1.Kids.map api_Node.pv)])], nx⟩ := by
                    intro suf
                    induction suf with
                    | nil =>
                      intro pre v_26 hsplit hidx hh nx g1
                      rw [node_formed_l1] at hh
                      refine hI _ ?_
                      have h44 := walk_nil hsplit hidx
                      refine awp_first fun K kk hK => ?_
                      simp only [go_sem]
                      refine hK _ _ fun nx => ?_; clear hK K; try clear kk
                      refine awp_seq ?_
                      refine awp_false (by first | exact congrArg PV.bool h44 | rfl) ?_
                      refine awp_exit ?_; (repeat (with_reducible first | refine then_n ?_ | refine then_r ?_ | refine then_e ?_ | refine block_n ?_ | refine block_r ?_ | refine exit_here ?_ | refine exit_on rfl ?_ | refine scope_n ?_ | refine scope_r ?_ | refine scope_e ?_ | refine cut_awp ?_))
                      refine fragN ?_
                      refine cut_id ?_
                      refine ⟨(Option.some.inj hh), ?_⟩
                      first | exact ⟨_, _, _, _, rfl⟩ | (simp only [diptychlaw1_Cell.pv_eq, api_Attr.pv_eq, api_Node.pv_eq, pvL, List.map_cons, List.map_nil, List.map_append, rune1]; exact ⟨_, _, _, _, rfl⟩)
                    | cons y_31 suf ih =>
                      intro pre v_26 hsplit hidx hh nx g1
                      rw [node_formed_l1] at hh
                      refine hI _ ?_
                      obtain ⟨hl1a, hl1b, hl1d, hl1w, h44⟩ := walk_cons (f := api_Node.pv) hsplit hidx hlen1
                      refine awp_first fun K kk hK => ?_
                      simp only [go_sem]
                      refine hK _ _ fun nx => ?_; clear hK K; try clear kk
                      refine awp_seq ?_
                      refine awp_true (by first | exact congrArg PV.bool h44 | rfl) ?_
                      refine awp_skip ?_; (repeat (with_reducible first | refine then_n ?_ | refine then_r ?_ | refine then_e ?_ | refine block_n ?_ | refine block_r ?_ | refine exit_here ?_ | refine exit_on rfl ?_ | refine scope_n ?_ | refine scope_r ?_ | refine scope_e ?_ | refine cut_awp ?_))
                      refine awp_seq ?_
                      refine awp_block ?_
                      refine awp_first fun K kk hK => ?_
                      simp only [go_sem, hl1a, hl1b, hl1d, hl1w]
                      refine hK _ _ fun nx => ?_; clear hK K; try clear kk
                      obtain ⟨formed_32, h45, hh⟩ := bind_ex hh
                      by_cases h46 : (!formed_32) = true
                      · rw [if_pos h46] at hh
                        refine awp_first fun K kk hK => ?_
                        simp only [go_sem, h46, h46, hl1a, hl1b, hl1d, hl1w]
                        (repeat (refine And.intro ?_ ?_; focus (first | assumption | (try simp only [List.length_append, List.length_cons, List.length_nil] at *; omega))))
                        refine step_call2 (ih_node_formed _ _ h45) (by try simp only [go_sem, h46, h46, hl1a, hl1b, hl1d, hl1w]; (repeat (first | exact WkL.refl _ | exact Wk.refl _ | exact Wk.nil _ | refine WkL.cons _ _ _ _ ?_ ?_ | exact WkL.nil | refine Wk.agg _ _ ?_ | refine Wk.tup _ _ ?_))) (by rfl) (by rfl) ?_
                        simp only [go_sem, h46, h46, hl1a, hl1b, hl1d, hl1w]
                        (repeat (refine And.intro ?_ ?_; focus (first | assumption | (try simp only [List.length_append, List.length_cons, List.length_nil] at *; omega))))
                        refine hK _ _ fun nx => ?_; clear hK K; try clear kk
                        refine awp_true rfl ?_
                        refine awp_first fun K kk hK => ?_
                        simp only [go_sem, hl1a, hl1b, hl1d, hl1w]
                        refine hK _ _ fun nx => ?_; clear hK K; try clear kk
                        refine awp_ret ?_; (repeat (with_reducible first | refine then_n ?_ | refine then_r ?_ | refine then_e ?_ | refine block_n ?_ | refine block_r ?_ | refine exit_here ?_ | refine exit_on rfl ?_ | refine scope_n ?_ | refine scope_r ?_ | refine scope_e ?_ | refine cut_awp ?_))
                        refine fragR ⟨_, (Option.some.inj hh), ?_⟩
                        refine ret_pure2 ?_ (by rfl)
                        simp only [go_sem, rvsRes, rvRes, cellRes, tupOf, pur2, List.map_cons, List.map_append, List.head?_cons]
                        (repeat (first | exact Wk.refl _ | exact WkL.refl _ | exact Wk.nil _ | refine Wk.agg _ _ ?_ | refine Wk.tup _ _ ?_ | refine WkL.cons _ _ _ _ ?_ ?_ | exact WkL.nil))
                      · rw [if_neg h46] at hh
                        replace h46 := Bool.eq_false_iff.mpr h46
                        by_cases h47 : (decide (v_26 > (0 : Int))) = true
                        · rw [if_pos h47] at hh
                          obtain ⟨x_33, h48, hh⟩ := bind_ex hh
                          obtain ⟨h48a, h48b, h48c⟩ := rd_some h48
                          have h48d := rd_get (f := api_Node.pv) h48c
                          have h48f := rd_more (f := api_Node.pv) h48c
                          try simp only [Int.toNat_natCast, Int.reduceToNat] at h48d h48f
                          obtain ⟨alike_34, h49, hh⟩ := bind_ex hh
                          refine awp_first fun K kk hK => ?_
                          simp only [go_sem, h46, h47, of_decide_eq_true h47, h48a, h48b, h48d, h48f.1, h48f.2, h47, of_decide_eq_true h47, h46, hl1a, hl1b, hl1d, hl1w]
                          (repeat (refine And.intro ?_ ?_; focus (first | assumption | (try simp only [List.length_append, List.length_cons, List.length_nil] at *; omega))))
                          refine step_call2 (ih_node_formed _ _ h45) (by try simp only [go_sem, h46, h47, of_decide_eq_true h47, h48a, h48b, h48d, h48f.1, h48f.2, h47, of_decide_eq_true h47, h46, hl1a, hl1b, hl1d, hl1w]; (repeat (first | exact WkL.refl _ | exact Wk.refl _ | exact Wk.nil _ | refine WkL.cons _ _ _ _ ?_ ?_ | exact WkL.nil | refine Wk.agg _ _ ?_ | refine Wk.tup _ _ ?_))) (by rfl) (by rfl) ?_
                          simp only [go_sem, h46, h47, of_decide_eq_true h47, h48a, h48b, h48d, h48f.1, h48f.2, h47, of_decide_eq_true h47, h46, hl1a, hl1b, hl1d, hl1w]
                          (repeat (refine And.intro ?_ ?_; focus (first | assumption | (try simp only [List.length_append, List.length_cons, List.length_nil] at *; omega))))
                          refine step_call2 (node_alike_ok _ _ _ h49) (by try simp only [go_sem, h46, h47, of_decide_eq_true h47, h48a, h48b, h48d, h48f.1, h48f.2, h47, of_decide_eq_true h47, h46, hl1a, hl1b, hl1d, hl1w]; (repeat (first | exact WkL.refl _ | exact Wk.refl _ | exact Wk.nil _ | refine WkL.cons _ _ _ _ ?_ ?_ | exact WkL.nil | refine Wk.agg _ _ ?_ | refine Wk.tup _ _ ?_))) (by rfl) (by rfl) ?_
                          simp only [go_sem, h46, h47, of_decide_eq_true h47, h48a, h48b, h48d, h48f.1, h48f.2, h47, of_decide_eq_true h47, h46, hl1a, hl1b, hl1d, hl1w]
                          (repeat (refine And.intro ?_ ?_; focus (first | assumption | (try simp only [List.length_append, List.length_cons, List.length_nil] at *; omega))))
                          refine hK _ _ fun nx => ?_; clear hK K; try clear kk
                          by_cases h50 : (alike_34) = true
                          · rw [if_pos h50] at hh
                            refine awp_true (by first | exact congrArg PV.bool h50 | rfl) ?_
                            refine awp_first fun K kk hK => ?_
                            simp only [go_sem, hl1a, hl1b, hl1d, hl1w]
                            refine hK _ _ fun nx => ?_; clear hK K; try clear kk
                            refine awp_ret ?_; (repeat (with_reducible first | refine then_n ?_ | refine then_r ?_ | refine then_e ?_ | refine block_n ?_ | refine block_r ?_ | refine exit_here ?_ | refine exit_on rfl ?_ | refine scope_n ?_ | refine scope_r ?_ | refine scope_e ?_ | refine cut_awp ?_))
                            refine fragR ⟨_, (Option.some.inj hh), ?_⟩
                            refine ret_pure2 ?_ (by rfl)
                            simp only [go_sem, rvsRes, rvRes, cellRes, tupOf, pur2, List.map_cons, List.map_append, List.head?_cons]
                            (repeat (first | exact Wk.refl _ | exact WkL.refl _ | exact Wk.nil _ | refine Wk.agg _ _ ?_ | refine Wk.tup _ _ ?_ | refine WkL.cons _ _ _ _ ?_ ?_ | exact WkL.nil))
                          · rw [if_neg h50] at hh
                            replace h50 := Bool.eq_false_iff.mpr h50
                            refine awp_false (by first | exact congrArg PV.bool h50 | rfl) ?_
                            refine awp_skip ?_; (repeat (with_reducible first | refine then_n ?_ | refine then_r ?_ | refine then_e ?_ | refine block_n ?_ | refine block_r ?_ | refine exit_here ?_ | refine exit_on rfl ?_ | refine scope_n ?_ | refine scope_r ?_ | refine scope_e ?_ | refine cut_awp ?_))
                            refine awp_region fun K kk hK => ?_
                            simp only [go_sem, hl1a, hl1b, hl1d, hl1w]
                            refine hK _ _ fun nx => ?_; clear hK K; try clear kk
                            (repeat (with_reducible first | refine then_n ?_ | refine then_r ?_ | refine then_e ?_ | refine block_n ?_ | refine block_r ?_ | refine exit_here ?_ | refine exit_on rfl ?_ | refine scope_n ?_ | refine scope_r ?_ | refine scope_e ?_ | refine cut_awp ?_))
                            have ih' := ih (pre ++ [y_31]) (v_26 + 1) (by rw [hsplit]; simp) (by simp [hidx]) hh nx
                            refine cut_id ?_
                            first | exact ih' _ | (simp only [diptychlaw1_Cell.pv_eq, api_Attr.pv_eq, api_Node.pv_eq, pvL, List.map_cons, List.map_nil, List.map_append, rune1] at ih' ⊢; exact ih' _)
                        · rw [if_neg h47] at hh
                          replace h47 := Bool.eq_false_iff.mpr h47
                          refine awp_first fun K kk hK => ?_
                          simp only [go_sem, h46, h47, of_decide_eq_false h47, h47, of_decide_eq_false h47, h46, hl1a, hl1b, hl1d, hl1w]
                          (repeat (refine And.intro ?_ ?_; focus (first | assumption | (try simp only [List.length_append, List.length_cons, List.length_nil] at *; omega))))
                          refine step_call2 (ih_node_formed _ _ h45) (by try simp only [go_sem, h46, h47, of_decide_eq_false h47, h47, of_decide_eq_false h47, h46, hl1a, hl1b, hl1d, hl1w]; (repeat (first | exact WkL.refl _ | exact Wk.refl _ | exact Wk.nil _ | refine WkL.cons _ _ _ _ ?_ ?_ | exact WkL.nil | refine Wk.agg _ _ ?_ | refine Wk.tup _ _ ?_))) (by rfl) (by rfl) ?_
                          simp only [go_sem, h46, h47, of_decide_eq_false h47, h47, of_decide_eq_false h47, h46, hl1a, hl1b, hl1d, hl1w]
                          (repeat (refine And.intro ?_ ?_; focus (first | assumption | (try simp only [List.length_append, List.length_cons, List.length_nil] at *; omega))))
                          refine hK _ _ fun nx => ?_; clear hK K; try clear kk
                          refine awp_false rfl ?_
                          refine awp_skip ?_; (repeat (with_reducible first | refine then_n ?_ | refine then_r ?_ | refine then_e ?_ | refine block_n ?_ | refine block_r ?_ | refine exit_here ?_ | refine exit_on rfl ?_ | refine scope_n ?_ | refine scope_r ?_ | refine scope_e ?_ | refine cut_awp ?_))
                          refine awp_region fun K kk hK => ?_
                          simp only [go_sem, hl1a, hl1b, hl1d, hl1w]
                          refine hK _ _ fun nx => ?_; clear hK K; try clear kk
                          (repeat (with_reducible first | refine then_n ?_ | refine then_r ?_ | refine then_e ?_ | refine block_n ?_ | refine block_r ?_ | refine exit_here ?_ | refine exit_on rfl ?_ | refine scope_n ?_ | refine scope_r ?_ | refine scope_e ?_ | refine cut_awp ?_))
                          have ih' := ih (pre ++ [y_31]) (v_26 + 1) (by rw [hsplit]; simp) (by simp [hidx]) hh nx
                          refine cut_id ?_
                          first | exact ih' _ | (simp only [diptychlaw1_Cell.pv_eq, api_Attr.pv_eq, api_Node.pv_eq, pvL, List.map_cons, List.map_nil, List.map_append, rune1] at ih' ⊢; exact ih' _)
                  exact key n_1.Kids [] _ rfl rfl f1 _ _
                · rintro s ⟨t, hless, rfl, v_36, v_37, nx, g1, rfl⟩
                  try dsimp only at hh
                  (repeat (with_reducible first | refine then_n ?_ | refine then_r ?_ | refine then_e ?_ | refine block_n ?_ | refine block_r ?_ | refine exit_here ?_ | refine exit_on rfl ?_ | refine scope_n ?_ | refine scope_r ?_ | refine scope_e ?_))
                  first | (refine cut_less hless ?_; try refine cut_awp ?_) | refine frag_less hless ?_ | refine body_less hless ?_
                  refine awp_first fun K kk hK => ?_
                  simp only [go_sem]
                  refine hK _ _ fun nx => ?_; clear hK K; try clear kk
                  refine awp_ret ?_; (repeat (with_reducible first | refine then_n ?_ | refine then_r ?_ | refine then_e ?_ | refine block_n ?_ | refine block_r ?_ | refine exit_here ?_ | refine exit_on rfl ?_ | refine scope_n ?_ | refine scope_r ?_ | refine scope_e ?_ | refine cut_awp ?_))
                  obtain hR := Option.some.inj hh
                  subst hR
                  refine ret_pure2 ?_ (by rfl)
                  simp only [go_sem, rvsRes, rvRes, cellRes, tupOf, pur2, List.map_cons, List.map_append, List.head?_cons]
                  (repeat (first | exact Wk.refl _ | exact WkL.refl _ | exact Wk.nil _ | refine Wk.agg _ _ ?_ | refine Wk.tup _ _ ?_ | refine WkL.cons _ _ _ _ ?_ ?_ | exact WkL.nil))
                · intro i s h; exact h.elim
                · rintro s ⟨res_35, rfl, hb⟩
                  try dsimp only at hh
                  obtain hR := Option.some.inj hh
                  subst hR
                  (repeat (with_reducible first | refine then_n ?_ | refine then_r ?_ | refine then_e ?_ | refine block_n ?_ | refine block_r ?_ | refine exit_here ?_ | refine exit_on rfl ?_ | refine scope_n ?_ | refine scope_r ?_ | refine scope_e ?_ | refine cut_awp ?_))
                  exact hb
      · intro i s h; exact h.elim
      · rintro s ⟨res_16, rfl, hb⟩
        try dsimp only at hh
        obtain hR := Option.some.inj hh
        subst hR
        (repeat (with_reducible first | refine then_n ?_ | refine then_r ?_ | refine then_e ?_ | refine block_n ?_ | refine block_r ?_ | refine exit_here ?_ | refine exit_on rfl ?_ | refine scope_n ?_ | refine scope_r ?_ | refine scope_e ?_ | refine cut_awp ?_))
        exact hb
theorem node_formed_ok (n_1 : api_Node) (R : Bool) (hh : node_formed n_1 = some R) : PC Tryd.prog 62 [.agg [.str n_1.Kind, .str n_1.Text, .list 1 (n_1.Marks.map PV.str), .list 2 (n_1.Attrs.map api_Attr.pv), .list 5 (n_1.Kids.map api_Node.pv)]] (.bool R) := by
  rw [node_formed] at hh
  obtain ⟨kr, hh⟩ := lim_some hh
  exact (node_formed_grp kr) _ _ hh
theorem node_Check_ok (n_1 : api_Node) (R : Int) (hh : node_Check n_1 = some R) : PC Tryd.prog 33 [.agg [.str n_1.Kind, .str n_1.Text, .list 1 (n_1.Marks.map PV.str), .list 2 (n_1.Attrs.map api_Attr.pv), .list 5 (n_1.Kids.map api_Node.pv)]] (.int .i64 R) := by
  rw [node_Check] at hh
  refine start_node_Check rfl ?_
  refine awp_first fun K kk hK => ?_
  simp only [go_sem]
  refine hK _ _ fun nx => ?_; clear hK K; try clear kk
  refine awp_seq ?_
  refine awp_block ?_
  obtain ⟨formed_2, h1, hh⟩ := bind_ex hh
  refine awp_first fun K kk hK => ?_
  simp only [go_sem]
  refine step_call2 (node_formed_ok _ _ h1) (by try simp only [go_sem]; (repeat (first | exact WkL.refl _ | exact Wk.refl _ | exact Wk.nil _ | refine WkL.cons _ _ _ _ ?_ ?_ | exact WkL.nil | refine Wk.agg _ _ ?_ | refine Wk.tup _ _ ?_))) (by rfl) (by rfl) ?_
  simp only [go_sem]
  refine hK _ _ fun nx => ?_; clear hK K; try clear kk
  by_cases h2 : (!formed_2) = true
  · rw [if_pos h2] at hh
    refine awp_true (by first | exact congrArg PV.bool h2 | rfl) ?_
    refine awp_first fun K kk hK => ?_
    simp only [go_sem]
    refine hK _ _ fun nx => ?_; clear hK K; try clear kk
    refine awp_ret ?_; (repeat (with_reducible first | refine then_n ?_ | refine then_r ?_ | refine then_e ?_ | refine block_n ?_ | refine block_r ?_ | refine exit_here ?_ | refine exit_on rfl ?_ | refine scope_n ?_ | refine scope_r ?_ | refine scope_e ?_ | refine cut_awp ?_))
    obtain hR := Option.some.inj hh
    subst hR
    refine ret_pure2 ?_ (by rfl)
    simp only [go_sem, rvsRes, rvRes, cellRes, tupOf, pur2, List.map_cons, List.map_append, List.head?_cons]
    (repeat (first | exact Wk.refl _ | exact WkL.refl _ | exact Wk.nil _ | refine Wk.agg _ _ ?_ | refine Wk.tup _ _ ?_ | refine WkL.cons _ _ _ _ ?_ ?_ | exact WkL.nil))
  · rw [if_neg h2] at hh
    replace h2 := Bool.eq_false_iff.mpr h2
    refine awp_false (by first | exact congrArg PV.bool h2 | rfl) ?_
    obtain ⟨depth_3, h3, hh⟩ := bind_ex hh
    refine awp_first fun K kk hK => ?_
    simp only [go_sem]
    refine step_call2 (node_Depth_ok _ _ h3) (by try simp only [go_sem]; (repeat (first | exact WkL.refl _ | exact Wk.refl _ | exact Wk.nil _ | refine WkL.cons _ _ _ _ ?_ ?_ | exact WkL.nil | refine Wk.agg _ _ ?_ | refine Wk.tup _ _ ?_))) (by rfl) (by rfl) ?_
    simp only [go_sem]
    refine hK _ _ fun nx => ?_; clear hK K; try clear kk
    by_cases h4 : (decide (depth_3 > (40 : Int))) = true
    · rw [if_pos h4] at hh
      refine awp_true (by first | exact congrArg PV.bool h4 | rfl) ?_
      refine awp_first fun K kk hK => ?_
      simp only [go_sem]
      refine hK _ _ fun nx => ?_; clear hK K; try clear kk
      refine awp_ret ?_; (repeat (with_reducible first | refine then_n ?_ | refine then_r ?_ | refine then_e ?_ | refine block_n ?_ | refine block_r ?_ | refine exit_here ?_ | refine exit_on rfl ?_ | refine scope_n ?_ | refine scope_r ?_ | refine scope_e ?_ | refine cut_awp ?_))
      obtain hR := Option.some.inj hh
      subst hR
      refine ret_pure2 ?_ (by rfl)
      simp only [go_sem, rvsRes, rvRes, cellRes, tupOf, pur2, List.map_cons, List.map_append, List.head?_cons]
      (repeat (first | exact Wk.refl _ | exact WkL.refl _ | exact Wk.nil _ | refine Wk.agg _ _ ?_ | refine Wk.tup _ _ ?_ | refine WkL.cons _ _ _ _ ?_ ?_ | exact WkL.nil))
    · rw [if_neg h4] at hh
      replace h4 := Bool.eq_false_iff.mpr h4
      refine awp_false (by first | exact congrArg PV.bool h4 | rfl) ?_
      obtain ⟨size_4, h5, hh⟩ := bind_ex hh
      refine awp_first fun K kk hK => ?_
      simp only [go_sem]
      refine step_call2 (node_Size_ok _ _ h5) (by try simp only [go_sem]; (repeat (first | exact WkL.refl _ | exact Wk.refl _ | exact Wk.nil _ | refine WkL.cons _ _ _ _ ?_ ?_ | exact WkL.nil | refine Wk.agg _ _ ?_ | refine Wk.tup _ _ ?_))) (by rfl) (by rfl) ?_
      simp only [go_sem]
      refine hK _ _ fun nx => ?_; clear hK K; try clear kk
      by_cases h6 : (decide (size_4 > (4000 : Int))) = true
      · rw [if_pos h6] at hh
        refine awp_true (by first | exact congrArg PV.bool h6 | rfl) ?_
        refine awp_first fun K kk hK => ?_
        simp only [go_sem]
        refine hK _ _ fun nx => ?_; clear hK K; try clear kk
        refine awp_ret ?_; (repeat (with_reducible first | refine then_n ?_ | refine then_r ?_ | refine then_e ?_ | refine block_n ?_ | refine block_r ?_ | refine exit_here ?_ | refine exit_on rfl ?_ | refine scope_n ?_ | refine scope_r ?_ | refine scope_e ?_ | refine cut_awp ?_))
        obtain hR := Option.some.inj hh
        subst hR
        refine ret_pure2 ?_ (by rfl)
        simp only [go_sem, rvsRes, rvRes, cellRes, tupOf, pur2, List.map_cons, List.map_append, List.head?_cons]
        (repeat (first | exact Wk.refl _ | exact WkL.refl _ | exact Wk.nil _ | refine Wk.agg _ _ ?_ | refine Wk.tup _ _ ?_ | refine WkL.cons _ _ _ _ ?_ ?_ | exact WkL.nil))
      · rw [if_neg h6] at hh
        replace h6 := Bool.eq_false_iff.mpr h6
        refine awp_false (by first | exact congrArg PV.bool h6 | rfl) ?_
        refine awp_skip ?_; (repeat (with_reducible first | refine then_n ?_ | refine then_r ?_ | refine then_e ?_ | refine block_n ?_ | refine block_r ?_ | refine exit_here ?_ | refine exit_on rfl ?_ | refine scope_n ?_ | refine scope_r ?_ | refine scope_e ?_ | refine cut_awp ?_))
        refine awp_first fun K kk hK => ?_
        simp only [go_sem]
        refine hK _ _ fun nx => ?_; clear hK K; try clear kk
        refine awp_ret ?_; (repeat (with_reducible first | refine then_n ?_ | refine then_r ?_ | refine then_e ?_ | refine block_n ?_ | refine block_r ?_ | refine exit_here ?_ | refine exit_on rfl ?_ | refine scope_n ?_ | refine scope_r ?_ | refine scope_e ?_ | refine cut_awp ?_))
        obtain hR := Option.some.inj hh
        subst hR
        refine ret_pure2 ?_ (by rfl)
        simp only [go_sem, rvsRes, rvRes, cellRes, tupOf, pur2, List.map_cons, List.map_append, List.head?_cons]
        (repeat (first | exact Wk.refl _ | exact WkL.refl _ | exact Wk.nil _ | refine Wk.agg _ _ ?_ | refine Wk.tup _ _ ?_ | refine WkL.cons _ _ _ _ ?_ ?_ | exact WkL.nil))
theorem node_Right_ok (n_1 : api_Node) (R : Bool) (hh : node_Right n_1 = some R) : PC Tryd.prog 34 [.agg [.str n_1.Kind, .str n_1.Text, .list 1 (n_1.Marks.map PV.str), .list 2 (n_1.Attrs.map api_Attr.pv), .list 5 (n_1.Kids.map api_Node.pv)]] (.bool R) := by
  rw [node_Right] at hh
  refine start_node_Right rfl ?_
  refine awp_first fun K kk hK => ?_
  simp only [go_sem]
  refine hK _ _ fun nx => ?_; clear hK K; try clear kk
  obtain ⟨check_2, h1, hh⟩ := bind_ex hh
  refine awp_first fun K kk hK => ?_
  simp only [go_sem]
  refine step_call2 (node_Check_ok _ _ h1) (by try simp only [go_sem]; (repeat (first | exact WkL.refl _ | exact Wk.refl _ | exact Wk.nil _ | refine WkL.cons _ _ _ _ ?_ ?_ | exact WkL.nil | refine Wk.agg _ _ ?_ | refine Wk.tup _ _ ?_))) (by rfl) (by rfl) ?_
  simp only [go_sem]
  refine hK _ _ fun nx => ?_; clear hK K; try clear kk
  refine awp_ret ?_; (repeat (with_reducible first | refine then_n ?_ | refine then_r ?_ | refine then_e ?_ | refine block_n ?_ | refine block_r ?_ | refine exit_here ?_ | refine exit_on rfl ?_ | refine scope_n ?_ | refine scope_r ?_ | refine scope_e ?_ | refine cut_awp ?_))
  obtain hR := Option.some.inj hh
  subst hR
  refine ret_pure2 ?_ (by rfl)
  simp only [go_sem, rvsRes, rvRes, cellRes, tupOf, pur2, List.map_cons, List.map_append, List.head?_cons]
  (repeat (first | exact Wk.refl _ | exact WkL.refl _ | exact Wk.nil _ | refine Wk.agg _ _ ?_ | refine Wk.tup _ _ ?_ | refine WkL.cons _ _ _ _ ?_ ?_ | exact WkL.nil))
theorem diptychlaw1_shown_ok (R : Bool) (hh : diptychlaw1_shown = some R) : PC Tryd.prog 30 [] (.bool R) := by
  rw [diptychlaw1_shown] at hh
  refine start_diptychlaw1_shown rfl ?_
  refine awp_first fun K kk hK => ?_
  simp only [go_sem]
  refine hK _ _ fun nx => ?_; clear hK K; try clear kk
  refine awp_first fun K kk hK => ?_
  simp only [go_sem]
  refine hK _ _ fun nx => ?_; clear hK K; try clear kk
  obtain ⟨size_1, h1, hh⟩ := bind_ex hh
  by_cases h2 : (size_1 == (6 : Int)) = true
  · rw [if_pos h2] at hh
    obtain ⟨depth_2, h3, hh⟩ := bind_ex hh
    by_cases h4 : (depth_2 == (2 : Int)) = true
    · rw [if_pos h4] at hh
      obtain ⟨right_3, h5, hh⟩ := bind_ex hh
      refine awp_first fun K kk hK => ?_
      simp only [go_sem, h2, h2, h4, h4]
      (repeat (refine And.intro ?_ ?_; focus (first | assumption | (try simp only [List.length_append, List.length_cons, List.length_nil] at *; omega))))
      refine step_call2 (node_Size_ok _ _ h1) (by try simp only [go_sem, h2, h2, h4, h4]; (repeat (first | exact WkL.refl _ | exact Wk.refl _ | exact Wk.nil _ | refine WkL.cons _ _ _ _ ?_ ?_ | exact WkL.nil | refine Wk.agg _ _ ?_ | refine Wk.tup _ _ ?_))) (by rfl) (by rfl) ?_
      simp only [go_sem, h2, h2, h4, h4]
      (repeat (refine And.intro ?_ ?_; focus (first | assumption | (try simp only [List.length_append, List.length_cons, List.length_nil] at *; omega))))
      refine step_call2 (node_Depth_ok _ _ h3) (by try simp only [go_sem, h2, h2, h4, h4]; (repeat (first | exact WkL.refl _ | exact Wk.refl _ | exact Wk.nil _ | refine WkL.cons _ _ _ _ ?_ ?_ | exact WkL.nil | refine Wk.agg _ _ ?_ | refine Wk.tup _ _ ?_))) (by rfl) (by rfl) ?_
      simp only [go_sem, h2, h2, h4, h4]
      (repeat (refine And.intro ?_ ?_; focus (first | assumption | (try simp only [List.length_append, List.length_cons, List.length_nil] at *; omega))))
      refine step_call2 (node_Right_ok _ _ h5) (by try simp only [go_sem, h2, h2, h4, h4]; (repeat (first | exact WkL.refl _ | exact Wk.refl _ | exact Wk.nil _ | refine WkL.cons _ _ _ _ ?_ ?_ | exact WkL.nil | refine Wk.agg _ _ ?_ | refine Wk.tup _ _ ?_))) (by rfl) (by rfl) ?_
      simp only [go_sem, h2, h2, h4, h4]
      (repeat (refine And.intro ?_ ?_; focus (first | assumption | (try simp only [List.length_append, List.length_cons, List.length_nil] at *; omega))))
      refine hK _ _ fun nx => ?_; clear hK K; try clear kk
      refine awp_ret ?_; (repeat (with_reducible first | refine then_n ?_ | refine then_r ?_ | refine then_e ?_ | refine block_n ?_ | refine block_r ?_ | refine exit_here ?_ | refine exit_on rfl ?_ | refine scope_n ?_ | refine scope_r ?_ | refine scope_e ?_ | refine cut_awp ?_))
      obtain hR := Option.some.inj hh
      subst hR
      refine ret_pure2 ?_ (by rfl)
      simp only [go_sem, rvsRes, rvRes, cellRes, tupOf, pur2, List.map_cons, List.map_append, List.head?_cons]
      (repeat (first | exact Wk.refl _ | exact WkL.refl _ | exact Wk.nil _ | refine Wk.agg _ _ ?_ | refine Wk.tup _ _ ?_ | refine WkL.cons _ _ _ _ ?_ ?_ | exact WkL.nil))
    · rw [if_neg h4] at hh
      replace h4 := Bool.eq_false_iff.mpr h4
      refine awp_first fun K kk hK => ?_
      simp only [go_sem, h2, h2, h4, h4]
      (repeat (refine And.intro ?_ ?_; focus (first | assumption | (try simp only [List.length_append, List.length_cons, List.length_nil] at *; omega))))
      refine step_call2 (node_Size_ok _ _ h1) (by try simp only [go_sem, h2, h2, h4, h4]; (repeat (first | exact WkL.refl _ | exact Wk.refl _ | exact Wk.nil _ | refine WkL.cons _ _ _ _ ?_ ?_ | exact WkL.nil | refine Wk.agg _ _ ?_ | refine Wk.tup _ _ ?_))) (by rfl) (by rfl) ?_
      simp only [go_sem, h2, h2, h4, h4]
      (repeat (refine And.intro ?_ ?_; focus (first | assumption | (try simp only [List.length_append, List.length_cons, List.length_nil] at *; omega))))
      refine step_call2 (node_Depth_ok _ _ h3) (by try simp only [go_sem, h2, h2, h4, h4]; (repeat (first | exact WkL.refl _ | exact Wk.refl _ | exact Wk.nil _ | refine WkL.cons _ _ _ _ ?_ ?_ | exact WkL.nil | refine Wk.agg _ _ ?_ | refine Wk.tup _ _ ?_))) (by rfl) (by rfl) ?_
      simp only [go_sem, h2, h2, h4, h4]
      (repeat (refine And.intro ?_ ?_; focus (first | assumption | (try simp only [List.length_append, List.length_cons, List.length_nil] at *; omega))))
      refine hK _ _ fun nx => ?_; clear hK K; try clear kk
      refine awp_ret ?_; (repeat (with_reducible first | refine then_n ?_ | refine then_r ?_ | refine then_e ?_ | refine block_n ?_ | refine block_r ?_ | refine exit_here ?_ | refine exit_on rfl ?_ | refine scope_n ?_ | refine scope_r ?_ | refine scope_e ?_ | refine cut_awp ?_))
      obtain hR := Option.some.inj hh
      subst hR
      refine ret_pure2 ?_ (by rfl)
      simp only [go_sem, rvsRes, rvRes, cellRes, tupOf, pur2, List.map_cons, List.map_append, List.head?_cons]
      (repeat (first | exact Wk.refl _ | exact WkL.refl _ | exact Wk.nil _ | refine Wk.agg _ _ ?_ | refine Wk.tup _ _ ?_ | refine WkL.cons _ _ _ _ ?_ ?_ | exact WkL.nil))
  · rw [if_neg h2] at hh
    replace h2 := Bool.eq_false_iff.mpr h2
    refine awp_first fun K kk hK => ?_
    simp only [go_sem, h2, h2]
    (repeat (refine And.intro ?_ ?_; focus (first | assumption | (try simp only [List.length_append, List.length_cons, List.length_nil] at *; omega))))
    refine step_call2 (node_Size_ok _ _ h1) (by try simp only [go_sem, h2, h2]; (repeat (first | exact WkL.refl _ | exact Wk.refl _ | exact Wk.nil _ | refine WkL.cons _ _ _ _ ?_ ?_ | exact WkL.nil | refine Wk.agg _ _ ?_ | refine Wk.tup _ _ ?_))) (by rfl) (by rfl) ?_
    simp only [go_sem, h2, h2]
    (repeat (refine And.intro ?_ ?_; focus (first | assumption | (try simp only [List.length_append, List.length_cons, List.length_nil] at *; omega))))
    refine hK _ _ fun nx => ?_; clear hK K; try clear kk
    refine awp_ret ?_; (repeat (with_reducible first | refine then_n ?_ | refine then_r ?_ | refine then_e ?_ | refine block_n ?_ | refine block_r ?_ | refine exit_here ?_ | refine exit_on rfl ?_ | refine scope_n ?_ | refine scope_r ?_ | refine scope_e ?_ | refine cut_awp ?_))
    obtain hR := Option.some.inj hh
    subst hR
    refine ret_pure2 ?_ (by rfl)
    simp only [go_sem, rvsRes, rvRes, cellRes, tupOf, pur2, List.map_cons, List.map_append, List.head?_cons]
    (repeat (first | exact Wk.refl _ | exact WkL.refl _ | exact Wk.nil _ | refine Wk.agg _ _ ?_ | refine Wk.tup _ _ ?_ | refine WkL.cons _ _ _ _ ?_ ?_ | exact WkL.nil))
theorem diptychlaw1_pick_ok (c_1 : Int) (n_2 : Int) (R : Int) (hh : diptychlaw1_pick c_1 n_2 = some R) : PC Tryd.prog 31 [.int .i64 c_1, .int .i64 n_2] (.int .i64 R) := by
  rw [diptychlaw1_pick] at hh
  refine start_diptychlaw1_pick rfl ?_
  refine awp_first fun K kk hK => ?_
  simp only [go_sem]
  refine hK _ _ fun nx => ?_; clear hK K; try clear kk
  refine awp_seq ?_
  refine awp_first fun K kk hK => ?_
  simp only [go_sem]
  refine hK _ _ fun nx => ?_; clear hK K; try clear kk
  by_cases h1 : (decide (c_1 < (0 : Int))) = true
  · rw [if_pos h1] at hh
    refine awp_true (by first | exact congrArg PV.bool h1 | rfl) ?_
    refine awp_region fun K kk hK => ?_
    simp only [go_sem]
    refine hK _ _ fun nx => ?_; clear hK K; try clear kk
    (repeat (with_reducible first | refine then_n ?_ | refine then_r ?_ | refine then_e ?_ | refine block_n ?_ | refine block_r ?_ | refine exit_here ?_ | refine exit_on rfl ?_ | refine scope_n ?_ | refine scope_r ?_ | refine scope_e ?_ | refine cut_awp ?_))
    obtain ⟨h2, hh⟩ := chk_some hh
    refine awp_first fun K kk hK => ?_
    simp only [go_sem, h2]
    (repeat (refine And.intro ?_ ?_; focus (first | assumption | (try simp only [List.length_append, List.length_cons, List.length_nil] at *; omega))))
    refine hK _ _ fun nx => ?_; clear hK K; try clear kk
    refine awp_ret ?_; (repeat (with_reducible first | refine then_n ?_ | refine then_r ?_ | refine then_e ?_ | refine block_n ?_ | refine block_r ?_ | refine exit_here ?_ | refine exit_on rfl ?_ | refine scope_n ?_ | refine scope_r ?_ | refine scope_e ?_ | refine cut_awp ?_))
    obtain hR := Option.some.inj hh
    subst hR
    refine ret_pure2 ?_ (by rfl)
    simp only [go_sem, rvsRes, rvRes, cellRes, tupOf, pur2, List.map_cons, List.map_append, List.head?_cons]
    (repeat (first | exact Wk.refl _ | exact WkL.refl _ | exact Wk.nil _ | refine Wk.agg _ _ ?_ | refine Wk.tup _ _ ?_ | refine WkL.cons _ _ _ _ ?_ ?_ | exact WkL.nil))
  · rw [if_neg h1] at hh
    replace h1 := Bool.eq_false_iff.mpr h1
    refine awp_false (by first | exact congrArg PV.bool h1 | rfl) ?_
    refine awp_skip ?_; (repeat (with_reducible first | refine then_n ?_ | refine then_r ?_ | refine then_e ?_ | refine block_n ?_ | refine block_r ?_ | refine exit_here ?_ | refine exit_on rfl ?_ | refine scope_n ?_ | refine scope_r ?_ | refine scope_e ?_ | refine cut_awp ?_))
    obtain ⟨h3, hh⟩ := chk_some hh
    refine awp_first fun K kk hK => ?_
    simp only [go_sem, h3]
    (repeat (refine And.intro ?_ ?_; focus (first | assumption | (try simp only [List.length_append, List.length_cons, List.length_nil] at *; omega))))
    refine hK _ _ fun nx => ?_; clear hK K; try clear kk
    refine awp_ret ?_; (repeat (with_reducible first | refine then_n ?_ | refine then_r ?_ | refine then_e ?_ | refine block_n ?_ | refine block_r ?_ | refine exit_here ?_ | refine exit_on rfl ?_ | refine scope_n ?_ | refine scope_r ?_ | refine scope_e ?_ | refine cut_awp ?_))
    obtain hR := Option.some.inj hh
    subst hR
    refine ret_pure2 ?_ (by rfl)
    simp only [go_sem, rvsRes, rvRes, cellRes, tupOf, pur2, List.map_cons, List.map_append, List.head?_cons]
    (repeat (first | exact Wk.refl _ | exact WkL.refl _ | exact Wk.nil _ | refine Wk.agg _ _ ?_ | refine Wk.tup _ _ ?_ | refine WkL.cons _ _ _ _ ?_ ?_ | exact WkL.nil))
theorem diptychref1_sameNames_ok (a_1 : (List Str)) (b_2 : (List Str)) (R : Bool) (hh : diptychref1_sameNames a_1 b_2 = some R) : PC Tryd.prog 84 [.list 1 (a_1.map PV.str), .list 1 (b_2.map PV.str)] (.bool R) := by
  rw [diptychref1_sameNames] at hh
  refine start_diptychref1_sameNames rfl ?_
  refine awp_first fun K kk hK => ?_
  simp only [go_sem]
  refine hK _ _ fun nx => ?_; clear hK K; try clear kk
  refine awp_seq ?_
  refine awp_first fun K kk hK => ?_
  simp only [go_sem]
  refine hK _ _ fun nx => ?_; clear hK K; try clear kk
  by_cases h1 : ((a_1.length : Int) != (b_2.length : Int)) = true
  · rw [if_pos h1] at hh
    refine awp_true (by first | exact congrArg PV.bool h1 | rfl) ?_
    refine awp_first fun K kk hK => ?_
    simp only [go_sem]
    refine hK _ _ fun nx => ?_; clear hK K; try clear kk
    refine awp_ret ?_; (repeat (with_reducible first | refine then_n ?_ | refine then_r ?_ | refine then_e ?_ | refine block_n ?_ | refine block_r ?_ | refine exit_here ?_ | refine exit_on rfl ?_ | refine scope_n ?_ | refine scope_r ?_ | refine scope_e ?_ | refine cut_awp ?_))
    obtain hR := Option.some.inj hh
    subst hR
    refine ret_pure2 ?_ (by rfl)
    simp only [go_sem, rvsRes, rvRes, cellRes, tupOf, pur2, List.map_cons, List.map_append, List.head?_cons]
    (repeat (first | exact Wk.refl _ | exact WkL.refl _ | exact Wk.nil _ | refine Wk.agg _ _ ?_ | refine Wk.tup _ _ ?_ | refine WkL.cons _ _ _ _ ?_ ?_ | exact WkL.nil))
  · rw [if_neg h1] at hh
    replace h1 := Bool.eq_false_iff.mpr h1
    refine awp_false (by first | exact congrArg PV.bool h1 | rfl) ?_
    refine awp_skip ?_; (repeat (with_reducible first | refine then_n ?_ | refine then_r ?_ | refine then_e ?_ | refine block_n ?_ | refine block_r ?_ | refine exit_here ?_ | refine exit_on rfl ?_ | refine scope_n ?_ | refine scope_r ?_ | refine scope_e ?_ | refine cut_awp ?_))
    refine awp_seq ?_
    refine awp_first fun K kk hK => ?_
    simp only [go_sem]
    refine hK _ _ fun nx => ?_; clear hK K; try clear kk
    obtain ⟨e0, f0, hh⟩ := bind_ex hh
    obtain ⟨hlen0, f0⟩ := chk_some f0
    refine awp_fragE (CutTo (fun s => .inr () = e0 ∧ ∃ (i_11 : Int) (v_12 : Bool) (nx : Nat), s = ⟨[(0, .list 1 (a_1.map PV.str)), (1, .list 1 (b_2.map PV.str)), (5, .int .i64 i_11), (14, .bool v_12)], [], nx⟩))
      (fun i s => False)
      (fun s => ∃ res_10, .inl res_10 = e0 ∧ bodyR Tryd.prog [.tmp 4] (.bool res_10) [] .ret s) ?_ ?_ ?_ ?_
    · refine awp_block ?_
      refine awp_loopJ fun I hI => ?_
      have key : ∀ (suf pre : List Str) (i_5 : Int), a_1 = pre ++ suf → i_5 = (pre.length : Int) → diptychref1_sameNames_l0 b_2 suf i_5 = some e0 → ∀ (nx : Nat), I ⟨[(0, .list 1 (a_1.map PV.str)), (1, .list 1 (b_2.map PV.str)), (5, .int .i64 i_5)], [], nx⟩ := by
        intro suf
        induction suf with
        | nil =>
          intro pre i_5 hsplit hidx hh nx
          rw [diptychref1_sameNames_l0] at hh
          refine hI _ ?_
          have h10 := walk_nil hsplit hidx
          refine awp_seq ?_
          refine awp_first fun K kk hK => ?_
          simp only [go_sem]
          refine hK _ _ fun nx => ?_; clear hK K; try clear kk
          refine awp_false (by first | exact congrArg PV.bool h10 | rfl) ?_
          refine awp_exit ?_; (repeat (with_reducible first | refine then_n ?_ | refine then_r ?_ | refine then_e ?_ | refine block_n ?_ | refine block_r ?_ | refine exit_here ?_ | refine exit_on rfl ?_ | refine scope_n ?_ | refine scope_r ?_ | refine scope_e ?_ | refine cut_awp ?_))
          refine fragN ?_
          refine cut_id ?_
          refine ⟨(Option.some.inj hh), ?_⟩
          first | exact ⟨_, _, _, rfl⟩ | (simp only [diptychlaw1_Cell.pv_eq, api_Attr.pv_eq, api_Node.pv_eq, pvL, List.map_cons, List.map_nil, List.map_append, rune1]; exact ⟨_, _, _, rfl⟩)
        | cons y_8 suf ih =>
          intro pre i_5 hsplit hidx hh nx
          rw [diptychref1_sameNames_l0] at hh
          refine hI _ ?_
          obtain ⟨hl0a, hl0b, hl0d, hl0w, h10⟩ := walk_cons (f := PV.str) hsplit hidx hlen0
          refine awp_seq ?_
          refine awp_first fun K kk hK => ?_
          simp only [go_sem]
          refine hK _ _ fun nx => ?_; clear hK K; try clear kk
          refine awp_true (by first | exact congrArg PV.bool h10 | rfl) ?_
          refine awp_skip ?_; (repeat (with_reducible first | refine then_n ?_ | refine then_r ?_ | refine then_e ?_ | refine block_n ?_ | refine block_r ?_ | refine exit_here ?_ | refine exit_on rfl ?_ | refine scope_n ?_ | refine scope_r ?_ | refine scope_e ?_ | refine cut_awp ?_))
          refine awp_seq ?_
          refine awp_block ?_
          obtain ⟨x_9, h11, hh⟩ := bind_ex hh
          obtain ⟨h11a, h11b, h11c⟩ := rd_some h11
          have h11d := rd_get (f := PV.str) h11c
          have h11f := rd_more (f := PV.str) h11c
          try simp only [Int.toNat_natCast, Int.reduceToNat] at h11d h11f
          refine awp_first fun K kk hK => ?_
          simp only [go_sem, h11a, h11b, h11d, h11f.1, h11f.2, hl0a, hl0b, hl0d, hl0w]
          (repeat (refine And.intro ?_ ?_; focus (first | assumption | (try simp only [List.length_append, List.length_cons, List.length_nil] at *; omega))))
          refine hK _ _ fun nx => ?_; clear hK K; try clear kk
          by_cases h12 : (!(y_8 == x_9)) = true
          · rw [if_pos h12] at hh
            refine awp_true (by first | exact congrArg PV.bool h12 | rfl) ?_
            refine awp_first fun K kk hK => ?_
            simp only [go_sem, hl0a, hl0b, hl0d, hl0w]
            refine hK _ _ fun nx => ?_; clear hK K; try clear kk
            refine awp_ret ?_; (repeat (with_reducible first | refine then_n ?_ | refine then_r ?_ | refine then_e ?_ | refine block_n ?_ | refine block_r ?_ | refine exit_here ?_ | refine exit_on rfl ?_ | refine scope_n ?_ | refine scope_r ?_ | refine scope_e ?_ | refine cut_awp ?_))
            refine fragR ⟨_, (Option.some.inj hh), ?_⟩
            refine ret_pure2 ?_ (by rfl)
            simp only [go_sem, rvsRes, rvRes, cellRes, tupOf, pur2, List.map_cons, List.map_append, List.head?_cons]
            (repeat (first | exact Wk.refl _ | exact WkL.refl _ | exact Wk.nil _ | refine Wk.agg _ _ ?_ | refine Wk.tup _ _ ?_ | refine WkL.cons _ _ _ _ ?_ ?_ | exact WkL.nil))
          · rw [if_neg h12] at hh
            replace h12 := Bool.eq_false_iff.mpr h12
            refine awp_false (by first | exact congrArg PV.bool h12 | rfl) ?_
            refine awp_skip ?_; (repeat (with_reducible first | refine then_n ?_ | refine then_r ?_ | refine then_e ?_ | refine block_n ?_ | refine block_r ?_ | refine exit_here ?_ | refine exit_on rfl ?_ | refine scope_n ?_ | refine scope_r ?_ | refine scope_e ?_ | refine cut_awp ?_))
            refine awp_region fun K kk hK => ?_
            simp only [go_sem, hl0a, hl0b, hl0d, hl0w]
            refine hK _ _ fun nx => ?_; clear hK K; try clear kk
            (repeat (with_reducible first | refine then_n ?_ | refine then_r ?_ | refine then_e ?_ | refine block_n ?_ | refine block_r ?_ | refine exit_here ?_ | refine exit_on rfl ?_ | refine scope_n ?_ | refine scope_r ?_ | refine scope_e ?_ | refine cut_awp ?_))
            have ih' := ih (pre ++ [y_8]) (i_5 + 1) (by rw [hsplit]; simp) (by simp [hidx]) hh nx
            refine cut_id ?_
            first | exact ih' | (simp only [diptychlaw1_Cell.pv_eq, api_Attr.pv_eq, api_Node.pv_eq, pvL, List.map_cons, List.map_nil, List.map_append, rune1] at ih' ⊢; exact ih')
      exact key a_1 [] _ rfl rfl f0 _
    · rintro s ⟨t, hless, rfl, i_11, v_12, nx, rfl⟩
      try dsimp only at hh
      (repeat (with_reducible first | refine then_n ?_ | refine then_r ?_ | refine then_e ?_ | refine block_n ?_ | refine block_r ?_ | refine exit_here ?_ | refine exit_on rfl ?_ | refine scope_n ?_ | refine scope_r ?_ | refine scope_e ?_))
      first | (refine cut_less hless ?_; try refine cut_awp ?_) | refine frag_less hless ?_ | refine body_less hless ?_
      refine awp_first fun K kk hK => ?_
      simp only [go_sem]
      refine hK _ _ fun nx => ?_; clear hK K; try clear kk
      refine awp_ret ?_; (repeat (with_reducible first | refine then_n ?_ | refine then_r ?_ | refine then_e ?_ | refine block_n ?_ | refine block_r ?_ | refine exit_here ?_ | refine exit_on rfl ?_ | refine scope_n ?_ | refine scope_r ?_ | refine scope_e ?_ | refine cut_awp ?_))
      obtain hR := Option.some.inj hh
      subst hR
      refine ret_pure2 ?_ (by rfl)
      simp only [go_sem, rvsRes, rvRes, cellRes, tupOf, pur2, List.map_cons, List.map_append, List.head?_cons]
      (repeat (first | exact Wk.refl _ | exact WkL.refl _ | exact Wk.nil _ | refine Wk.agg _ _ ?_ | refine Wk.tup _ _ ?_ | refine WkL.cons _ _ _ _ ?_ ?_ | exact WkL.nil))
    · intro i s h; exact h.elim
    · rintro s ⟨res_10, rfl, hb⟩
      try dsimp only at hh
      obtain hR := Option.some.inj hh
      subst hR
      (repeat (with_reducible first | refine then_n ?_ | refine then_r ?_ | refine then_e ?_ | refine block_n ?_ | refine block_r ?_ | refine exit_here ?_ | refine exit_on rfl ?_ | refine scope_n ?_ | refine scope_r ?_ | refine scope_e ?_ | refine cut_awp ?_))
      exact hb
theorem diptychref1_Join_ok (l_1 : (List api_Node)) (R : (List api_Node)) (hh : diptychref1_Join l_1 = some R) : PC Tryd.prog 55 [.list 5 (l_1.map api_Node.pv)] (.own 5 (R.map api_Node.pv)) := by
  rw [diptychref1_Join] at hh
  refine start_diptychref1_Join rfl ?_
  refine awp_first fun K kk hK => ?_
  simp only [go_sem]
  refine hK _ _ fun nx => ?_; clear hK K; try clear kk
  refine awp_first fun K kk hK => ?_
  simp only [go_sem]
  refine hK _ _ fun nx => ?_; clear hK K; try clear kk
  refine awp_seq ?_
  refine awp_first fun K kk hK => ?_
  simp only [go_sem]
  refine hK _ _ fun nx => ?_; clear hK K; try clear kk
  obtain ⟨e0, f0, hh⟩ := bind_ex hh
  obtain ⟨hlen0, f0⟩ := chk_some f0
  refine awp_fragE (CutTo (fun s => ∃ out_39, out_39 = e0 ∧ ∃ (i_37 : Int) (v_38 : Bool) (nx : Nat) (g3 : Nat), s = ⟨[(0, .list 5 (l_1.map api_Node.pv)), (3, .row 3 g3 out_39.length), (4, .int .i64 i_37), (10, .bool v_38)], [(3, g3, .row false 5 (out_39.map api_Node.pv))], nx⟩))
    (fun i s => False)
    (fun s => False) ?_ ?_ ?_ ?_
  · refine awp_block ?_
    refine awp_loopJ fun I hI => ?_
    have key : ∀ (suf pre : List api_Node) (i_13 : Int) (out_14 : (List api_Node)), l_1 = pre ++ suf → i_13 = (pre.length : Int) → diptychref1_Join_l0 suf i_13 out_14 = some e0 → ∀ (nx : Nat) (g3 : Nat), I ⟨[(0, .list 5 (l_1.map api_Node.pv)), (3, .row 3 g3 out_14.length), (4, .int .i64 i_13)], [(3, g3, .row false 5 (out_14.map api_Node.pv))], nx⟩ := by
      intro suf
      induction suf with
      | nil =>
        intro pre i_13 out_14 hsplit hidx hh nx g3
        rw [diptychref1_Join_l0] at hh
        refine hI _ ?_
        have h37 := walk_nil hsplit hidx
        refine awp_seq ?_
        refine awp_first fun K kk hK => ?_
        simp only [go_sem]
        refine hK _ _ fun nx => ?_; clear hK K; try clear kk
        refine awp_false (by first | exact congrArg PV.bool h37 | rfl) ?_
        refine awp_exit ?_; (repeat (with_reducible first | refine then_n ?_ | refine then_r ?_ | refine then_e ?_ | refine block_n ?_ | refine block_r ?_ | refine exit_here ?_ | refine exit_on rfl ?_ | refine scope_n ?_ | refine scope_r ?_ | refine scope_e ?_ | refine cut_awp ?_))
        refine fragN ?_
        refine cut_id ?_
        refine ⟨_, (Option.some.inj hh), ?_⟩
        first | exact ⟨_, _, _, _, rfl⟩ | (simp only [diptychlaw1_Cell.pv_eq, api_Attr.pv_eq, api_Node.pv_eq, pvL, List.map_cons, List.map_nil, List.map_append, rune1]; exact ⟨_, _, _, _, rfl⟩)
      | cons y_26 suf ih =>
        intro pre i_13 out_14 hsplit hidx hh nx g3
        rw [diptychref1_Join_l0] at hh
        refine hI _ ?_
        obtain ⟨hl0a, hl0b, hl0d, hl0w, h37⟩ := walk_cons (f := api_Node.pv) hsplit hidx hlen0
        refine awp_seq ?_
        refine awp_first fun K kk hK => ?_
        simp only [go_sem]
        refine hK _ _ fun nx => ?_; clear hK K; try clear kk
        refine awp_true (by first | exact congrArg PV.bool h37 | rfl) ?_
        refine awp_skip ?_; (repeat (with_reducible first | refine then_n ?_ | refine then_r ?_ | refine then_e ?_ | refine block_n ?_ | refine block_r ?_ | refine exit_here ?_ | refine exit_on rfl ?_ | refine scope_n ?_ | refine scope_r ?_ | refine scope_e ?_ | refine cut_awp ?_))
        refine awp_seq ?_
        refine awp_block ?_
        refine awp_first fun K kk hK => ?_
        simp only [go_sem, hl0a, hl0b, hl0d, hl0w]
        refine hK _ _ fun nx => ?_; clear hK K; try clear kk
        refine awp_first fun K kk hK => ?_
        simp only [go_sem, hl0a, hl0b, hl0d, hl0w]
        refine hK _ _ fun nx => ?_; clear hK K; try clear kk
        refine awp_seq ?_
        obtain ⟨e3, f3, hh⟩ := bind_ex hh
        refine awp_frag (fun s => .inr () = e3 ∧ ∃ (v_27 : Bool) (nx : Nat) (g3 : Nat) (g5 : Nat), s = ⟨[(0, .list 5 (l_1.map api_Node.pv)), (3, .row 3 g3 out_14.length), (4, .int .i64 i_13), (5, .box 5 g5 0), (6, .int .i64 (w64 ((out_14.length : Int) - (1 : Int)))), (27, .bool v_27)], [(3, g3, .row false 5 (out_14.map api_Node.pv)), (5, g5, .var 27 [.str y_26.Kind, .str y_26.Text, .list 1 (y_26.Marks.map PV.str), .list 2 (y_26.Attrs.map api_Attr.pv), .list 5 (y_26.Kids.map api_Node.pv)])], nx⟩)
          (fun i s => (i = 1 ∧ .inl () = e3 ∧ ∃ (nx : Nat) (g3 : Nat) (g5 : Nat), s = ⟨[(0, .list 5 (l_1.map api_Node.pv)), (3, .row 3 g3 out_14.length), (4, .int .i64 i_13), (5, .box 5 g5 0), (6, .int .i64 (w64 ((out_14.length : Int) - (1 : Int)))), (27, .bool (y_26.Text == ([] : Str)))], [(3, g3, .row false 5 (out_14.map api_Node.pv)), (5, g5, .var 27 [.str y_26.Kind, .str y_26.Text, .list 1 (y_26.Marks.map PV.str), .list 2 (y_26.Attrs.map api_Attr.pv), .list 5 (y_26.Kids.map api_Node.pv)])], nx⟩))
          (fun s => False) ?_ ?_ ?_ ?_
        · have hh := f3
          by_cases h38 : (y_26.Kind == ([116, 101, 120, 116] : Str)) = true
          · rw [if_pos h38] at hh
            refine awp_first fun K kk hK => ?_
            simp only [go_sem, h38, h38, hl0a, hl0b, hl0d, hl0w]
            (repeat (refine And.intro ?_ ?_; focus (first | assumption | (try simp only [List.length_append, List.length_cons, List.length_nil] at *; omega))))
            refine hK _ _ fun nx => ?_; clear hK K; try clear kk
            by_cases h39 : (y_26.Text == ([] : Str)) = true
            · rw [if_pos h39] at hh
              refine awp_true (by first | exact congrArg PV.bool h39 | rfl) ?_
              refine awp_exit ?_; (repeat (with_reducible first | refine then_n ?_ | refine then_r ?_ | refine then_e ?_ | refine block_n ?_ | refine block_r ?_ | refine exit_here ?_ | refine exit_on rfl ?_ | refine scope_n ?_ | refine scope_r ?_ | refine scope_e ?_ | refine cut_awp ?_))
              refine fragE ⟨rfl, (Option.some.inj hh), ?_⟩
              first | exact ⟨_, _, _, rfl⟩ | (simp only [diptychlaw1_Cell.pv_eq, api_Attr.pv_eq, api_Node.pv_eq, pvL, List.map_cons, List.map_nil, List.map_append, rune1]; exact ⟨_, _, _, rfl⟩)
            · rw [if_neg h39] at hh
              replace h39 := Bool.eq_false_iff.mpr h39
              refine awp_false (by first | exact congrArg PV.bool h39 | rfl) ?_
              refine awp_skip ?_; (repeat (with_reducible first | refine then_n ?_ | refine then_r ?_ | refine then_e ?_ | refine block_n ?_ | refine block_r ?_ | refine exit_here ?_ | refine exit_on rfl ?_ | refine scope_n ?_ | refine scope_r ?_ | refine scope_e ?_ | refine cut_awp ?_))
              refine fragN ?_
              refine cut_id ?_
              refine ⟨(Option.some.inj hh), ?_⟩
              first | exact ⟨_, _, _, _, rfl⟩ | (simp only [diptychlaw1_Cell.pv_eq, api_Attr.pv_eq, api_Node.pv_eq, pvL, List.map_cons, List.map_nil, List.map_append, rune1]; exact ⟨_, _, _, _, rfl⟩)
          · rw [if_neg h38] at hh
            replace h38 := Bool.eq_false_iff.mpr h38
            refine awp_first fun K kk hK => ?_
            simp only [go_sem, h38, h38, hl0a, hl0b, hl0d, hl0w]
            (repeat (refine And.intro ?_ ?_; focus (first | assumption | (try simp only [List.length_append, List.length_cons, List.length_nil] at *; omega))))
            refine hK _ _ fun nx => ?_; clear hK K; try clear kk
            refine awp_false rfl ?_
            refine awp_skip ?_; (repeat (with_reducible first | refine then_n ?_ | refine then_r ?_ | refine then_e ?_ | refine block_n ?_ | refine block_r ?_ | refine exit_here ?_ | refine exit_on rfl ?_ | refine scope_n ?_ | refine scope_r ?_ | refine scope_e ?_ | refine cut_awp ?_))
            refine fragN ?_
            refine cut_id ?_
            refine ⟨(Option.some.inj hh), ?_⟩
            first | exact ⟨_, _, _, _, rfl⟩ | (simp only [diptychlaw1_Cell.pv_eq, api_Attr.pv_eq, api_Node.pv_eq, pvL, List.map_cons, List.map_nil, List.map_append, rune1]; exact ⟨_, _, _, _, rfl⟩)
        · rintro s ⟨rfl, v_27, nx, g3, g5, rfl⟩
          try dsimp only at hh
          refine awp_seq ?_
          by_cases h40 : (y_26.Kind == ([116, 101, 120, 116] : Str)) = true
          · rw [if_pos h40] at hh
            by_cases h41 : (decide ((w64 ((out_14.length : Int) - (1 : Int))) ≥ (0 : Int))) = true
            · rw [if_pos h41] at hh
              obtain ⟨x_28, h42, hh⟩ := bind_ex hh
              obtain ⟨h42a, h42b, h42c⟩ := rd_some h42
              have h42d := rd_get (f := api_Node.pv) h42c
              have h42f := rd_more (f := api_Node.pv) h42c
              try simp only [Int.toNat_natCast, Int.reduceToNat] at h42d h42f
              by_cases h43 : (x_28.Kind == ([116, 101, 120, 116] : Str)) = true
              · rw [if_pos h43] at hh
                obtain ⟨samena_29, h44, hh⟩ := bind_ex hh
                refine awp_first fun K kk hK => ?_
                simp only [go_sem, h40, h40, h41, of_decide_eq_true h41, h42a, h42b, h42d, h42f.1, h42f.2, h41, of_decide_eq_true h41, h43, h42a, h42b, h42d, h42f.1, h42f.2, h43, hl0a, hl0b, hl0d, hl0w]
                (repeat (refine And.intro ?_ ?_; focus (first | assumption | (try simp only [List.length_append, List.length_cons, List.length_nil] at *; omega))))
                refine step_call2 (diptychref1_sameNames_ok _ _ _ h44) (by try simp only [go_sem, h40, h40, h41, of_decide_eq_true h41, h42a, h42b, h42d, h42f.1, h42f.2, h41, of_decide_eq_true h41, h43, h42a, h42b, h42d, h42f.1, h42f.2, h43, hl0a, hl0b, hl0d, hl0w]; (repeat (first | exact WkL.refl _ | exact Wk.refl _ | exact Wk.nil _ | refine WkL.cons _ _ _ _ ?_ ?_ | exact WkL.nil | refine Wk.agg _ _ ?_ | refine Wk.tup _ _ ?_))) (by rfl) (by rfl) ?_
                simp only [go_sem, h40, h40, h41, of_decide_eq_true h41, h42a, h42b, h42d, h42f.1, h42f.2, h41, of_decide_eq_true h41, h43, h42a, h42b, h42d, h42f.1, h42f.2, h43, hl0a, hl0b, hl0d, hl0w]
                (repeat (refine And.intro ?_ ?_; focus (first | assumption | (try simp only [List.length_append, List.length_cons, List.length_nil] at *; omega))))
                refine hK _ _ fun nx => ?_; clear hK K; try clear kk
                by_cases h45 : (samena_29) = true
                · rw [if_pos h45] at hh
                  refine awp_true (by first | exact congrArg PV.bool h45 | rfl) ?_
                  obtain ⟨h46, hh⟩ := chk_some hh
                  refine awp_first fun K kk hK => ?_
                  simp only [go_sem, h42a, h42b, h42d, h42f.1, h42f.2, h46, hl0a, hl0b, hl0d, hl0w]
                  (repeat (refine And.intro ?_ ?_; focus (first | assumption | (try simp only [List.length_append, List.length_cons, List.length_nil] at *; omega))))
                  refine hK _ _ fun nx => ?_; clear hK K; try clear kk
                  obtain ⟨s_30, h47, hh⟩ := bind_ex hh
                  obtain ⟨h47a, h47c⟩ := sl_some h47
                  have h47g := sl_le h47a
                  have h47d := sl_map0 (f := api_Node.pv) h47c
                  try simp only [Int.toNat_natCast, Int.reduceToNat, List.map_cons, List.map_nil, diptychlaw1_Cell.pv_eq, api_Attr.pv_eq, api_Node.pv_eq, pvL] at h47d
                  obtain ⟨l_31, h48, hh⟩ := bind_ex hh
                  obtain ⟨h48a, h48c⟩ := app_some h48
                  have h48d := app_map (f := api_Node.pv) h48c
                  have h48e := app_len h48c
                  try simp only [List.length_cons, List.length_nil, Nat.zero_add, Nat.reduceAdd] at h48a h48e
                  try simp only [h48e] at h48a
                  try simp only [List.map_cons, List.map_nil, List.nil_append, List.append_nil, List.cons_append, List.singleton_append, rune1, diptychlaw1_Cell.pv_eq, api_Attr.pv_eq, api_Node.pv_eq, pvL] at h48d
                  obtain ⟨l_32, h49, hh⟩ := bind_ex hh
                  obtain ⟨h49a, h49c⟩ := app_some h49
                  have h49d := app_map (f := api_Node.pv) h49c
                  have h49e := app_len h49c
                  try simp only [List.length_cons, List.length_nil, Nat.zero_add, Nat.reduceAdd] at h49a h49e
                  try simp only [h49e] at h49a
                  try simp only [List.map_cons, List.map_nil, List.nil_append, List.append_nil, List.cons_append, List.singleton_append, rune1, diptychlaw1_Cell.pv_eq, api_Attr.pv_eq, api_Node.pv_eq, pvL] at h49d
                  refine awp_first fun K kk hK => ?_
                  simp only [go_sem, h47a.1, h47a.2.1, h47a.2.2, h47d, h47g, h48a, h48d, h48e, h49a, h49d, h49e, hl0a, hl0b, hl0d, hl0w]
                  (repeat (refine And.intro ?_ ?_; focus (first | assumption | (try simp only [List.length_append, List.length_cons, List.length_nil] at *; omega))))
                  refine hK _ _ fun nx => ?_; clear hK K; try clear kk
                  refine awp_exit ?_; (repeat (with_reducible first | refine then_n ?_ | refine then_r ?_ | refine then_e ?_ | refine block_n ?_ | refine block_r ?_ | refine exit_here ?_ | refine exit_on rfl ?_ | refine scope_n ?_ | refine scope_r ?_ | refine scope_e ?_ | refine cut_awp ?_))
                  refine awp_region fun K kk hK => ?_
                  simp only [go_sem, hl0a, hl0b, hl0d, hl0w]
                  refine hK _ _ fun nx => ?_; clear hK K; try clear kk
                  (repeat (with_reducible first | refine then_n ?_ | refine then_r ?_ | refine then_e ?_ | refine block_n ?_ | refine block_r ?_ | refine exit_here ?_ | refine exit_on rfl ?_ | refine scope_n ?_ | refine scope_r ?_ | refine scope_e ?_ | refine cut_awp ?_))
                  have ih' := ih (pre ++ [y_26]) (i_13 + 1) _ (by rw [hsplit]; simp) (by simp [hidx]) hh nx
                  refine cut_id ?_
                  first | exact ih' _ | (simp only [diptychlaw1_Cell.pv_eq, api_Attr.pv_eq, api_Node.pv_eq, pvL, List.map_cons, List.map_nil, List.map_append, rune1, h48e, h48d, h49e] at ih' ⊢; exact ih' _)
                · rw [if_neg h45] at hh
                  replace h45 := Bool.eq_false_iff.mpr h45
                  refine awp_false (by first | exact congrArg PV.bool h45 | rfl) ?_
                  refine awp_skip ?_; (repeat (with_reducible first | refine then_n ?_ | refine then_r ?_ | refine then_e ?_ | refine block_n ?_ | refine block_r ?_ | refine exit_here ?_ | refine exit_on rfl ?_ | refine scope_n ?_ | refine scope_r ?_ | refine scope_e ?_ | refine cut_awp ?_))
                  obtain ⟨l_33, h50, hh⟩ := bind_ex hh
                  obtain ⟨h50a, h50c⟩ := app_some h50
                  have h50d := app_map (f := api_Node.pv) h50c
                  have h50e := app_len h50c
                  try simp only [List.length_cons, List.length_nil, Nat.zero_add, Nat.reduceAdd] at h50a h50e
                  try simp only [h50e] at h50a
                  try simp only [List.map_cons, List.map_nil, List.nil_append, List.append_nil, List.cons_append, List.singleton_append, rune1, diptychlaw1_Cell.pv_eq, api_Attr.pv_eq, api_Node.pv_eq, pvL] at h50d
                  refine awp_region fun K kk hK => ?_
                  simp only [go_sem, h50a, h50d, h50e, hl0a, hl0b, hl0d, hl0w]
                  (repeat (refine And.intro ?_ ?_; focus (first | assumption | (try simp only [List.length_append, List.length_cons, List.length_nil] at *; omega))))
                  refine hK _ _ fun nx => ?_; clear hK K; try clear kk
                  (repeat (with_reducible first | refine then_n ?_ | refine then_r ?_ | refine then_e ?_ | refine block_n ?_ | refine block_r ?_ | refine exit_here ?_ | refine exit_on rfl ?_ | refine scope_n ?_ | refine scope_r ?_ | refine scope_e ?_ | refine cut_awp ?_))
                  refine awp_region fun K kk hK => ?_
                  simp only [go_sem, hl0a, hl0b, hl0d, hl0w]
                  refine hK _ _ fun nx => ?_; clear hK K; try clear kk
                  (repeat (with_reducible first | refine then_n ?_ | refine then_r ?_ | refine then_e ?_ | refine block_n ?_ | refine block_r ?_ | refine exit_here ?_ | refine exit_on rfl ?_ | refine scope_n ?_ | refine scope_r ?_ | refine scope_e ?_ | refine cut_awp ?_))
                  have ih' := ih (pre ++ [y_26]) (i_13 + 1) _ (by rw [hsplit]; simp) (by simp [hidx]) hh nx
                  refine cut_id ?_
                  first | exact ih' _ | (simp only [diptychlaw1_Cell.pv_eq, api_Attr.pv_eq, api_Node.pv_eq, pvL, List.map_cons, List.map_nil, List.map_append, rune1, h50e] at ih' ⊢; exact ih' _)
              · rw [if_neg h43] at hh
                replace h43 := Bool.eq_false_iff.mpr h43
                refine awp_first fun K kk hK => ?_
                simp only [go_sem, h40, h40, h41, of_decide_eq_true h41, h42a, h42b, h42d, h42f.1, h42f.2, h41, of_decide_eq_true h41, h43, h43, hl0a, hl0b, hl0d, hl0w]
                (repeat (refine And.intro ?_ ?_; focus (first | assumption | (try simp only [List.length_append, List.length_cons, List.length_nil] at *; omega))))
                refine hK _ _ fun nx => ?_; clear hK K; try clear kk
                refine awp_false rfl ?_
                refine awp_skip ?_; (repeat (with_reducible first | refine then_n ?_ | refine then_r ?_ | refine then_e ?_ | refine block_n ?_ | refine block_r ?_ | refine exit_here ?_ | refine exit_on rfl ?_ | refine scope_n ?_ | refine scope_r ?_ | refine scope_e ?_ | refine cut_awp ?_))
                obtain ⟨l_34, h51, hh⟩ := bind_ex hh
                obtain ⟨h51a, h51c⟩ := app_some h51
                have h51d := app_map (f := api_Node.pv) h51c
                have h51e := app_len h51c
                try simp only [List.length_cons, List.length_nil, Nat.zero_add, Nat.reduceAdd] at h51a h51e
                try simp only [h51e] at h51a
                try simp only [List.map_cons, List.map_nil, List.nil_append, List.append_nil, List.cons_append, List.singleton_append, rune1, diptychlaw1_Cell.pv_eq, api_Attr.pv_eq, api_Node.pv_eq, pvL] at h51d
                refine awp_region fun K kk hK => ?_
                simp only [go_sem, h51a, h51d, h51e, hl0a, hl0b, hl0d, hl0w]
                (repeat (refine And.intro ?_ ?_; focus (first | assumption | (try simp only [List.length_append, List.length_cons, List.length_nil] at *; omega))))
                refine hK _ _ fun nx => ?_; clear hK K; try clear kk
                (repeat (with_reducible first | refine then_n ?_ | refine then_r ?_ | refine then_e ?_ | refine block_n ?_ | refine block_r ?_ | refine exit_here ?_ | refine exit_on rfl ?_ | refine scope_n ?_ | refine scope_r ?_ | refine scope_e ?_ | refine cut_awp ?_))
                refine awp_region fun K kk hK => ?_
                simp only [go_sem, hl0a, hl0b, hl0d, hl0w]
                refine hK _ _ fun nx => ?_; clear hK K; try clear kk
                (repeat (with_reducible first | refine then_n ?_ | refine then_r ?_ | refine then_e ?_ | refine block_n ?_ | refine block_r ?_ | refine exit_here ?_ | refine exit_on rfl ?_ | refine scope_n ?_ | refine scope_r ?_ | refine scope_e ?_ | refine cut_awp ?_))
                have ih' := ih (pre ++ [y_26]) (i_13 + 1) _ (by rw [hsplit]; simp) (by simp [hidx]) hh nx
                refine cut_id ?_
                first | exact ih' _ | (simp only [diptychlaw1_Cell.pv_eq, api_Attr.pv_eq, api_Node.pv_eq, pvL, List.map_cons, List.map_nil, List.map_append, rune1, h51e] at ih' ⊢; exact ih' _)
            · rw [if_neg h41] at hh
              replace h41 := Bool.eq_false_iff.mpr h41
              refine awp_first fun K kk hK => ?_
              simp only [go_sem, h40, h40, h41, of_decide_eq_false h41, h41, of_decide_eq_false h41, hl0a, hl0b, hl0d, hl0w]
              (repeat (refine And.intro ?_ ?_; focus (first | assumption | (try simp only [List.length_append, List.length_cons, List.length_nil] at *; omega))))
              refine hK _ _ fun nx => ?_; clear hK K; try clear kk
              refine awp_false rfl ?_
              refine awp_skip ?_; (repeat (with_reducible first | refine then_n ?_ | refine then_r ?_ | refine then_e ?_ | refine block_n ?_ | refine block_r ?_ | refine exit_here ?_ | refine exit_on rfl ?_ | refine scope_n ?_ | refine scope_r ?_ | refine scope_e ?_ | refine cut_awp ?_))
              obtain ⟨l_35, h52, hh⟩ := bind_ex hh
              obtain ⟨h52a, h52c⟩ := app_some h52
              have h52d := app_map (f := api_Node.pv) h52c
              have h52e := app_len h52c
              try simp only [List.length_cons, List.length_nil, Nat.zero_add, Nat.reduceAdd] at h52a h52e
              try simp only [h52e] at h52a
              try simp only [List.map_cons, List.map_nil, List.nil_append, List.append_nil, List.cons_append, List.singleton_append, rune1, diptychlaw1_Cell.pv_eq, api_Attr.pv_eq, api_Node.pv_eq, pvL] at h52d
              refine awp_region fun K kk hK => ?_
              simp only [go_sem, h52a, h52d, h52e, hl0a, hl0b, hl0d, hl0w]
              (repeat (refine And.intro ?_ ?_; focus (first | assumption | (try simp only [List.length_append, List.length_cons, List.length_nil] at *; omega))))
              refine hK _ _ fun nx => ?_; clear hK K; try clear kk
              (repeat (with_reducible first | refine then_n ?_ | refine then_r ?_ | refine then_e ?_ | refine block_n ?_ | refine block_r ?_ | refine exit_here ?_ | refine exit_on rfl ?_ | refine scope_n ?_ | refine scope_r ?_ | refine scope_e ?_ | refine cut_awp ?_))
              refine awp_region fun K kk hK => ?_
              simp only [go_sem, hl0a, hl0b, hl0d, hl0w]
              refine hK _ _ fun nx => ?_; clear hK K; try clear kk
              (repeat (with_reducible first | refine then_n ?_ | refine then_r ?_ | refine then_e ?_ | refine block_n ?_ | refine block_r ?_ | refine exit_here ?_ | refine exit_on rfl ?_ | refine scope_n ?_ | refine scope_r ?_ | refine scope_e ?_ | refine cut_awp ?_))
              have ih' := ih (pre ++ [y_26]) (i_13 + 1) _ (by rw [hsplit]; simp) (by simp [hidx]) hh nx
              refine cut_id ?_
              first | exact ih' _ | (simp only [diptychlaw1_Cell.pv_eq, api_Attr.pv_eq, api_Node.pv_eq, pvL, List.map_cons, List.map_nil, List.map_append, rune1, h52e] at ih' ⊢; exact ih' _)
          · rw [if_neg h40] at hh
            replace h40 := Bool.eq_false_iff.mpr h40
            refine awp_first fun K kk hK => ?_
            simp only [go_sem, h40, h40, hl0a, hl0b, hl0d, hl0w]
            (repeat (refine And.intro ?_ ?_; focus (first | assumption | (try simp only [List.length_append, List.length_cons, List.length_nil] at *; omega))))
            refine hK _ _ fun nx => ?_; clear hK K; try clear kk
            refine awp_false rfl ?_
            refine awp_skip ?_; (repeat (with_reducible first | refine then_n ?_ | refine then_r ?_ | refine then_e ?_ | refine block_n ?_ | refine block_r ?_ | refine exit_here ?_ | refine exit_on rfl ?_ | refine scope_n ?_ | refine scope_r ?_ | refine scope_e ?_ | refine cut_awp ?_))
            obtain ⟨l_36, h53, hh⟩ := bind_ex hh
            obtain ⟨h53a, h53c⟩ := app_some h53
            have h53d := app_map (f := api_Node.pv) h53c
            have h53e := app_len h53c
            try simp only [List.length_cons, List.length_nil, Nat.zero_add, Nat.reduceAdd] at h53a h53e
            try simp only [h53e] at h53a
            try simp only [List.map_cons, List.map_nil, List.nil_append, List.append_nil, List.cons_append, List.singleton_append, rune1, diptychlaw1_Cell.pv_eq, api_Attr.pv_eq, api_Node.pv_eq, pvL] at h53d
            refine awp_region fun K kk hK => ?_
            simp only [go_sem, h53a, h53d, h53e, hl0a, hl0b, hl0d, hl0w]
            (repeat (refine And.intro ?_ ?_; focus (first | assumption | (try simp only [List.length_append, List.length_cons, List.length_nil] at *; omega))))
            refine hK _ _ fun nx => ?_; clear hK K; try clear kk
            (repeat (with_reducible first | refine then_n ?_ | refine then_r ?_ | refine then_e ?_ | refine block_n ?_ | refine block_r ?_ | refine exit_here ?_ | refine exit_on rfl ?_ | refine scope_n ?_ | refine scope_r ?_ | refine scope_e ?_ | refine cut_awp ?_))
            refine awp_region fun K kk hK => ?_
            simp only [go_sem, hl0a, hl0b, hl0d, hl0w]
            refine hK _ _ fun nx => ?_; clear hK K; try clear kk
            (repeat (with_reducible first | refine then_n ?_ | refine then_r ?_ | refine then_e ?_ | refine block_n ?_ | refine block_r ?_ | refine exit_here ?_ | refine exit_on rfl ?_ | refine scope_n ?_ | refine scope_r ?_ | refine scope_e ?_ | refine cut_awp ?_))
            have ih' := ih (pre ++ [y_26]) (i_13 + 1) _ (by rw [hsplit]; simp) (by simp [hidx]) hh nx
            refine cut_id ?_
            first | exact ih' _ | (simp only [diptychlaw1_Cell.pv_eq, api_Attr.pv_eq, api_Node.pv_eq, pvL, List.map_cons, List.map_nil, List.map_append, rune1, h53e] at ih' ⊢; exact ih' _)
        · intro i s h
          obtain ⟨rfl, rfl, nx, g3, g5, rfl⟩ := h
          try dsimp only at hh
          (repeat (with_reducible first | refine then_n ?_ | refine then_r ?_ | refine then_e ?_ | refine block_n ?_ | refine block_r ?_ | refine exit_here ?_ | refine exit_on rfl ?_ | refine scope_n ?_ | refine scope_r ?_ | refine scope_e ?_ | refine cut_awp ?_))
          refine awp_region fun K kk hK => ?_
          simp only [go_sem, hl0a, hl0b, hl0d, hl0w]
          refine hK _ _ fun nx => ?_; clear hK K; try clear kk
          (repeat (with_reducible first | refine then_n ?_ | refine then_r ?_ | refine then_e ?_ | refine block_n ?_ | refine block_r ?_ | refine exit_here ?_ | refine exit_on rfl ?_ | refine scope_n ?_ | refine scope_r ?_ | refine scope_e ?_ | refine cut_awp ?_))
          have ih' := ih (pre ++ [y_26]) (i_13 + 1) _ (by rw [hsplit]; simp) (by simp [hidx]) hh nx
          refine cut_id ?_
          first | exact ih' _ | (simp only [diptychlaw1_Cell.pv_eq, api_Attr.pv_eq, api_Node.pv_eq, pvL, List.map_cons, List.map_nil, List.map_append, rune1] at ih' ⊢; exact ih' _)
        · intro s h; exact h.elim
    exact key l_1 [] _ _ rfl rfl f0 _ _
  · rintro s ⟨t, hless, out_39, rfl, i_37, v_38, nx, g3, rfl⟩
    try dsimp only at hh
    (repeat (with_reducible first | refine then_n ?_ | refine then_r ?_ | refine then_e ?_ | refine block_n ?_ | refine block_r ?_ | refine exit_here ?_ | refine exit_on rfl ?_ | refine scope_n ?_ | refine scope_r ?_ | refine scope_e ?_))
    first | (refine cut_less hless ?_; try refine cut_awp ?_) | refine frag_less hless ?_ | refine body_less hless ?_
    refine awp_first fun K kk hK => ?_
    simp only [go_sem]
    refine hK _ _ fun nx => ?_; clear hK K; try clear kk
    refine awp_ret ?_; (repeat (with_reducible first | refine then_n ?_ | refine then_r ?_ | refine then_e ?_ | refine block_n ?_ | refine block_r ?_ | refine exit_here ?_ | refine exit_on rfl ?_ | refine scope_n ?_ | refine scope_r ?_ | refine scope_e ?_ | refine cut_awp ?_))
    obtain hR := Option.some.inj hh
    subst hR
    exact ret_own (by rfl) (by rfl) (by rfl) (by simp only [List.length_map, List.length_cons, List.length_nil, Nat.zero_add, Nat.reduceAdd]) (by first | rfl | (simp only [diptychlaw1_Cell.pv_eq, api_Attr.pv_eq, api_Node.pv_eq, pvL, List.map_cons, List.map_nil, List.map_append, rune1]; done) | (simp only [diptychlaw1_Cell.pv_eq, api_Attr.pv_eq, api_Node.pv_eq, pvL, List.map_cons, List.map_nil, List.map_append, rune1]; rfl))
  · intro i s h; exact h.elim
  · intro s h; exact h.elim

end Go.Proofs.YtlgjbmgmoaphjaaDoor
