/- What the functions answer, the program answers (0). -/
import Derived.Test.YtlgjbmgmoaphjaaDoorAgC
import Derived.Test.YtlgjbmgmoaphjaaDoorAgF
import Derived.Test.YtlgjbmgmoaphjaaDoorAgL
namespace Go.Proofs.YtlgjbmgmoaphjaaDoor
set_option linter.unusedSimpArgs false
set_option linter.unusedVariables false
open Go
set_option maxRecDepth 100000

theorem strings_Join_ok (l : (List Str)) (sep : Str) (R : Str) (hh : strings_Join l sep = some R) : PC Tryd.prog 60 [.list 1 (l.map PV.str), .str sep] (.str R) := by
  rw [strings_Join] at hh
  exact lib_join ⟨_, Tryd.func60, by kernel_rfl, by kernel_rfl⟩ Tryd.strings_Join_none Tryd.strings_Join l sep R hh
theorem strings_ReplaceAll_ok (s : Str) (old : Str) (new : Str) (R : Str) (hh : strings_ReplaceAll s old new = some R) : PC Tryd.prog 88 [.str s, .str old, .str new] (.str R) := by
  rw [strings_ReplaceAll] at hh
  exact lib_replaceAll ⟨_, Tryd.func88, by kernel_rfl, by kernel_rfl⟩ (fun _ h => h.2) Tryd.strings_ReplaceAll s old new R hh
theorem codec_Quote_ok (s_1 : Str) (R : Str) (hh : codec_Quote s_1 = some R) : PC Tryd.prog 61 [.str s_1] (.str R) := by
  rw [codec_Quote] at hh
  refine start_codec_Quote rfl ?_
  refine awp_first fun K kk hK => ?_
  simp only [go_sem]
  refine hK _ _ fun nx => ?_; clear hK K; try clear kk
  obtain ⟨replac_2, h1, hh⟩ := bind_ex hh
  refine awp_first fun K kk hK => ?_
  simp only [go_sem]
  refine step_call2 (strings_ReplaceAll_ok _ _ _ _ h1) (by try simp only [go_sem]; (repeat (first | exact WkL.refl _ | exact Wk.refl _ | exact Wk.nil _ | refine WkL.cons _ _ _ _ ?_ ?_ | exact WkL.nil | refine Wk.agg _ _ ?_ | refine Wk.tup _ _ ?_))) (by rfl) (by rfl) ?_
  simp only [go_sem]
  refine hK _ _ fun nx => ?_; clear hK K; try clear kk
  obtain ⟨replac_3, h2, hh⟩ := bind_ex hh
  obtain ⟨h3, hh⟩ := chk_some hh
  obtain ⟨h4, hh⟩ := chk_some hh
  refine awp_first fun K kk hK => ?_
  simp only [go_sem, h3, h4]
  (repeat (refine And.intro ?_ ?_; focus (first | assumption | (try simp only [List.length_append, List.length_cons, List.length_nil] at *; omega))))
  refine step_call2 (strings_ReplaceAll_ok _ _ _ _ h2) (by try simp only [go_sem, h3, h4]; (repeat (first | exact WkL.refl _ | exact Wk.refl _ | exact Wk.nil _ | refine WkL.cons _ _ _ _ ?_ ?_ | exact WkL.nil | refine Wk.agg _ _ ?_ | refine Wk.tup _ _ ?_))) (by rfl) (by rfl) ?_
  simp only [go_sem, h3, h4]
  (repeat (refine And.intro ?_ ?_; focus (first | assumption | (try simp only [List.length_append, List.length_cons, List.length_nil] at *; omega))))
  refine hK _ _ fun nx => ?_; clear hK K; try clear kk
  refine awp_ret ?_; (repeat (with_reducible first | refine then_n ?_ | refine then_r ?_ | refine then_e ?_ | refine block_n ?_ | refine block_r ?_ | refine exit_here ?_ | refine exit_on rfl ?_ | refine scope_n ?_ | refine scope_r ?_ | refine scope_e ?_ | refine cut_awp ?_))
  obtain hR := Option.some.inj hh
  subst hR
  refine ret_pure2 ?_ (by rfl)
  simp only [go_sem, rvsRes, rvRes, cellRes, tupOf, pur2, List.map_cons, List.map_append, List.head?_cons]
  (repeat (first | exact Wk.refl _ | exact WkL.refl _ | exact Wk.nil _ | refine Wk.agg _ _ ?_ | refine Wk.tup _ _ ?_ | refine WkL.cons _ _ _ _ ?_ ?_ | exact WkL.nil))
theorem codec_Head_ok (n_1 : api_Node) (R : Str) (hh : codec_Head n_1 = some R) : PC Tryd.prog 29 [.agg [.str n_1.Kind, .str n_1.Text, .list 1 (n_1.Marks.map PV.str), .list 2 (n_1.Attrs.map api_Attr.pv), .list 5 (n_1.Kids.map api_Node.pv)]] (.str R) := by
  rw [codec_Head] at hh
  refine start_codec_Head rfl ?_
  refine awp_first fun K kk hK => ?_
  simp only [go_sem]
  refine hK _ _ fun nx => ?_; clear hK K; try clear kk
  refine awp_seq ?_
  refine awp_first fun K kk hK => ?_
  simp only [go_sem]
  refine hK _ _ fun nx => ?_; clear hK K; try clear kk
  by_cases h1 : (n_1.Kind == ([116, 101, 120, 116] : Str)) = true
  · rw [if_pos h1] at hh
    refine awp_true (by first | exact congrArg PV.bool h1 | rfl) ?_
    refine awp_seq ?_
    refine awp_first fun K kk hK => ?_
    simp only [go_sem]
    refine hK _ _ fun nx => ?_; clear hK K; try clear kk
    by_cases h2 : ((n_1.Marks.length : Int) == (0 : Int)) = true
    · rw [if_pos h2] at hh
      refine awp_true (by first | exact congrArg PV.bool h2 | rfl) ?_
      refine awp_first fun K kk hK => ?_
      simp only [go_sem]
      refine hK _ _ fun nx => ?_; clear hK K; try clear kk
      refine awp_ret ?_; (repeat (with_reducible first | refine then_n ?_ | refine then_r ?_ | refine then_e ?_ | refine block_n ?_ | refine block_r ?_ | refine exit_here ?_ | refine exit_on rfl ?_ | refine scope_n ?_ | refine scope_r ?_ | refine scope_e ?_ | refine cut_awp ?_))
      obtain hR := Option.some.inj hh
      subst hR
      refine ret_pure2 ?_ (by rfl)
      simp only [go_sem, rvsRes, rvRes, cellRes, tupOf, pur2, List.map_cons, List.map_append, List.head?_cons]
      (repeat (first | exact Wk.refl _ | exact WkL.refl _ | exact Wk.nil _ | refine Wk.agg _ _ ?_ | refine Wk.tup _ _ ?_ | refine WkL.cons _ _ _ _ ?_ ?_ | exact WkL.nil))
    · rw [if_neg h2] at hh
      replace h2 := Bool.eq_false_iff.mpr h2
      refine awp_false (by first | exact congrArg PV.bool h2 | rfl) ?_
      refine awp_skip ?_; (repeat (with_reducible first | refine then_n ?_ | refine then_r ?_ | refine then_e ?_ | refine block_n ?_ | refine block_r ?_ | refine exit_here ?_ | refine exit_on rfl ?_ | refine scope_n ?_ | refine scope_r ?_ | refine scope_e ?_ | refine cut_awp ?_))
      obtain ⟨join_2, h3, hh⟩ := bind_ex hh
      obtain ⟨h4, hh⟩ := chk_some hh
      obtain ⟨h5, hh⟩ := chk_some hh
      refine awp_first fun K kk hK => ?_
      simp only [go_sem, h4, h5]
      (repeat (refine And.intro ?_ ?_; focus (first | assumption | (try simp only [List.length_append, List.length_cons, List.length_nil] at *; omega))))
      refine step_call2 (strings_Join_ok _ _ _ h3) (by try simp only [go_sem, h4, h5]; (repeat (first | exact WkL.refl _ | exact Wk.refl _ | exact Wk.nil _ | refine WkL.cons _ _ _ _ ?_ ?_ | exact WkL.nil | refine Wk.agg _ _ ?_ | refine Wk.tup _ _ ?_))) (by rfl) (by rfl) ?_
      simp only [go_sem, h4, h5]
      (repeat (refine And.intro ?_ ?_; focus (first | assumption | (try simp only [List.length_append, List.length_cons, List.length_nil] at *; omega))))
      refine hK _ _ fun nx => ?_; clear hK K; try clear kk
      refine awp_ret ?_; (repeat (with_reducible first | refine then_n ?_ | refine then_r ?_ | refine then_e ?_ | refine block_n ?_ | refine block_r ?_ | refine exit_here ?_ | refine exit_on rfl ?_ | refine scope_n ?_ | refine scope_r ?_ | refine scope_e ?_ | refine cut_awp ?_))
      obtain hR := Option.some.inj hh
      subst hR
      refine ret_pure2 ?_ (by rfl)
      simp only [go_sem, rvsRes, rvRes, cellRes, tupOf, pur2, List.map_cons, List.map_append, List.head?_cons]
      (repeat (first | exact Wk.refl _ | exact WkL.refl _ | exact Wk.nil _ | refine Wk.agg _ _ ?_ | refine Wk.tup _ _ ?_ | refine WkL.cons _ _ _ _ ?_ ?_ | exact WkL.nil))
  · rw [if_neg h1] at hh
    replace h1 := Bool.eq_false_iff.mpr h1
    refine awp_false (by first | exact congrArg PV.bool h1 | rfl) ?_
    refine awp_skip ?_; (repeat (with_reducible first | refine then_n ?_ | refine then_r ?_ | refine then_e ?_ | refine block_n ?_ | refine block_r ?_ | refine exit_here ?_ | refine exit_on rfl ?_ | refine scope_n ?_ | refine scope_r ?_ | refine scope_e ?_ | refine cut_awp ?_))
    refine awp_seq ?_
    refine awp_first fun K kk hK => ?_
    simp only [go_sem]
    refine hK _ _ fun nx => ?_; clear hK K; try clear kk
    by_cases h6 : ((n_1.Attrs.length : Int) == (0 : Int)) = true
    · rw [if_pos h6] at hh
      refine awp_true (by first | exact congrArg PV.bool h6 | rfl) ?_
      refine awp_first fun K kk hK => ?_
      simp only [go_sem]
      refine hK _ _ fun nx => ?_; clear hK K; try clear kk
      refine awp_ret ?_; (repeat (with_reducible first | refine then_n ?_ | refine then_r ?_ | refine then_e ?_ | refine block_n ?_ | refine block_r ?_ | refine exit_here ?_ | refine exit_on rfl ?_ | refine scope_n ?_ | refine scope_r ?_ | refine scope_e ?_ | refine cut_awp ?_))
      obtain hR := Option.some.inj hh
      subst hR
      refine ret_pure2 ?_ (by rfl)
      simp only [go_sem, rvsRes, rvRes, cellRes, tupOf, pur2, List.map_cons, List.map_append, List.head?_cons]
      (repeat (first | exact Wk.refl _ | exact WkL.refl _ | exact Wk.nil _ | refine Wk.agg _ _ ?_ | refine Wk.tup _ _ ?_ | refine WkL.cons _ _ _ _ ?_ ?_ | exact WkL.nil))
    · rw [if_neg h6] at hh
      replace h6 := Bool.eq_false_iff.mpr h6
      refine awp_false (by first | exact congrArg PV.bool h6 | rfl) ?_
      refine awp_skip ?_; (repeat (with_reducible first | refine then_n ?_ | refine then_r ?_ | refine then_e ?_ | refine block_n ?_ | refine block_r ?_ | refine exit_here ?_ | refine exit_on rfl ?_ | refine scope_n ?_ | refine scope_r ?_ | refine scope_e ?_ | refine cut_awp ?_))
      refine awp_first fun K kk hK => ?_
      simp only [go_sem]
      refine hK _ _ fun nx => ?_; clear hK K; try clear kk
      refine awp_seq ?_
      refine awp_first fun K kk hK => ?_
      simp only [go_sem]
      refine hK _ _ fun nx => ?_; clear hK K; try clear kk
      obtain ⟨e0, f0, hh⟩ := bind_ex hh
      obtain ⟨hlen0, f0⟩ := chk_some f0
      refine awp_fragE (CutTo (fun s => ∃ l_16, l_16 = e0 ∧ ∃ (v_14 : Int) (v_15 : Bool) (nx : Nat) (g1 : Nat) (g3 : Nat), s = ⟨[(1, .box 1 g1 0), (3, .row 3 g3 l_16.length), (25, .list 2 (n_1.Attrs.map api_Attr.pv)), (26, .int .i64 (n_1.Attrs.length : Int)), (27, .int .i64 v_14), (28, .bool v_15)], [(1, g1, .var 27 [.str n_1.Kind, .str n_1.Text, .list 1 (n_1.Marks.map PV.str), .list 2 (n_1.Attrs.map api_Attr.pv), .list 5 (n_1.Kids.map api_Node.pv)]), (3, g3, .row false 1 (l_16.map PV.str))], nx⟩))
        (fun i s => False)
        (fun s => False) ?_ ?_ ?_ ?_
      · refine awp_block ?_
        refine awp_loopJ fun I hI => ?_
        have key : ∀ (suf pre : List api_Attr) (v_6 : Int) (l_7 : (List Str)), n_1.Attrs = pre ++ suf → v_6 = (pre.length : Int) → codec_Head_l0 suf v_6 l_7 = some e0 → ∀ (nx : Nat) (g1 : Nat) (g3 : Nat), I ⟨[(1, .box 1 g1 0), (3, .row 3 g3 l_7.length), (25, .list 2 (n_1.Attrs.map api_Attr.pv)), (26, .int .i64 (n_1.Attrs.length : Int)), (27, .int .i64 v_6)], [(1, g1, .var 27 [.str n_1.Kind, .str n_1.Text, .list 1 (n_1.Marks.map PV.str), .list 2 (n_1.Attrs.map api_Attr.pv), .list 5 (n_1.Kids.map api_Node.pv)]), (3, g3, .row false 1 (l_7.map PV.str))], nx⟩ := by
          intro suf
          induction suf with
          | nil =>
            intro pre v_6 l_7 hsplit hidx hh nx g1 g3
            rw [codec_Head_l0] at hh
            refine hI _ ?_
            have h19 := walk_nil hsplit hidx
            refine awp_first fun K kk hK => ?_
            simp only [go_sem]
            refine hK _ _ fun nx => ?_; clear hK K; try clear kk
            refine awp_seq ?_
            refine awp_false (by first | exact congrArg PV.bool h19 | rfl) ?_
            refine awp_exit ?_; (repeat (with_reducible first | refine then_n ?_ | refine then_r ?_ | refine then_e ?_ | refine block_n ?_ | refine block_r ?_ | refine exit_here ?_ | refine exit_on rfl ?_ | refine scope_n ?_ | refine scope_r ?_ | refine scope_e ?_ | refine cut_awp ?_))
            refine fragN ?_
            refine cut_id ?_
            refine ⟨_, (Option.some.inj hh), ?_⟩
            first | exact ⟨_, _, _, _, _, rfl⟩ | (simp only [diptychlaw3_Cell.pv_eq, api_Attr.pv_eq, api_Node.pv_eq, token_Token.pv_eq, diptychref3_Token.pv_eq, pvL, List.map_cons, List.map_nil, List.map_append, rune1]; exact ⟨_, _, _, _, _, rfl⟩)
          | cons y_11 suf ih =>
            intro pre v_6 l_7 hsplit hidx hh nx g1 g3
            rw [codec_Head_l0] at hh
            refine hI _ ?_
            obtain ⟨hl0a, hl0b, hl0d, hl0w, h19⟩ := walk_cons (f := api_Attr.pv) hsplit hidx hlen0
            refine awp_first fun K kk hK => ?_
            simp only [go_sem]
            refine hK _ _ fun nx => ?_; clear hK K; try clear kk
            refine awp_seq ?_
            refine awp_true (by first | exact congrArg PV.bool h19 | rfl) ?_
            refine awp_skip ?_; (repeat (with_reducible first | refine then_n ?_ | refine then_r ?_ | refine then_e ?_ | refine block_n ?_ | refine block_r ?_ | refine exit_here ?_ | refine exit_on rfl ?_ | refine scope_n ?_ | refine scope_r ?_ | refine scope_e ?_ | refine cut_awp ?_))
            refine awp_seq ?_
            refine awp_block ?_
            refine awp_first fun K kk hK => ?_
            simp only [go_sem, hl0a, hl0b, hl0d, hl0w]
            refine hK _ _ fun nx => ?_; clear hK K; try clear kk
            obtain ⟨h20, hh⟩ := chk_some hh
            obtain ⟨quote_12, h21, hh⟩ := bind_ex hh
            obtain ⟨h22, hh⟩ := chk_some hh
            obtain ⟨l_13, h23, hh⟩ := bind_ex hh
            obtain ⟨h23a, h23c⟩ := app_some h23
            have h23d := app_map (f := PV.str) h23c
            have h23e := app_len h23c
            try simp only [List.length_cons, List.length_nil, Nat.zero_add, Nat.reduceAdd] at h23a h23e
            try simp only [h23e] at h23a
            try simp only [List.map_cons, List.map_nil, List.nil_append, List.append_nil, List.cons_append, List.singleton_append, rune1, diptychlaw3_Cell.pv_eq, api_Attr.pv_eq, api_Node.pv_eq, token_Token.pv_eq, diptychref3_Token.pv_eq, pvL] at h23d
            refine awp_region fun K kk hK => ?_
            simp only [go_sem, h20, h22, h23a, h23d, h23e, hl0a, hl0b, hl0d, hl0w]
            (repeat (refine And.intro ?_ ?_; focus (first | assumption | (try simp only [List.length_append, List.length_cons, List.length_nil] at *; omega))))
            refine step_call2 (codec_Quote_ok _ _ h21) (by try simp only [go_sem, h20, h22, h23a, h23d, h23e, hl0a, hl0b, hl0d, hl0w]; (repeat (first | exact WkL.refl _ | exact Wk.refl _ | exact Wk.nil _ | refine WkL.cons _ _ _ _ ?_ ?_ | exact WkL.nil | refine Wk.agg _ _ ?_ | refine Wk.tup _ _ ?_))) (by rfl) (by rfl) ?_
            simp only [go_sem, h20, h22, h23a, h23d, h23e, hl0a, hl0b, hl0d, hl0w]
            (repeat (refine And.intro ?_ ?_; focus (first | assumption | (try simp only [List.length_append, List.length_cons, List.length_nil] at *; omega))))
            refine hK _ _ fun nx => ?_; clear hK K; try clear kk
            (repeat (with_reducible first | refine then_n ?_ | refine then_r ?_ | refine then_e ?_ | refine block_n ?_ | refine block_r ?_ | refine exit_here ?_ | refine exit_on rfl ?_ | refine scope_n ?_ | refine scope_r ?_ | refine scope_e ?_ | refine cut_awp ?_))
            refine awp_region fun K kk hK => ?_
            simp only [go_sem, hl0a, hl0b, hl0d, hl0w]
            refine hK _ _ fun nx => ?_; clear hK K; try clear kk
            (repeat (with_reducible first | refine then_n ?_ | refine then_r ?_ | refine then_e ?_ | refine block_n ?_ | refine block_r ?_ | refine exit_here ?_ | refine exit_on rfl ?_ | refine scope_n ?_ | refine scope_r ?_ | refine scope_e ?_ | refine cut_awp ?_))
            have ih' := ih (pre ++ [y_11]) (v_6 + 1) _ (by rw [hsplit]; simp) (by simp [hidx]) hh nx
            refine cut_id ?_
            first | exact ih' _ _ | (simp only [diptychlaw3_Cell.pv_eq, api_Attr.pv_eq, api_Node.pv_eq, token_Token.pv_eq, diptychref3_Token.pv_eq, pvL, List.map_cons, List.map_nil, List.map_append, rune1, h23e] at ih' ⊢; exact ih' _ _)
        exact key n_1.Attrs [] _ _ rfl rfl f0 _ _ _
      · rintro s ⟨t, hless, l_16, rfl, v_14, v_15, nx, g1, g3, rfl⟩
        try dsimp only at hh
        (repeat (with_reducible first | refine then_n ?_ | refine then_r ?_ | refine then_e ?_ | refine block_n ?_ | refine block_r ?_ | refine exit_here ?_ | refine exit_on rfl ?_ | refine scope_n ?_ | refine scope_r ?_ | refine scope_e ?_))
        first | (refine cut_less hless ?_; try refine cut_awp ?_) | refine frag_less hless ?_ | refine body_less hless ?_
        obtain ⟨h24, hh⟩ := chk_some hh
        obtain ⟨join_17, h25, hh⟩ := bind_ex hh
        obtain ⟨h26, hh⟩ := chk_some hh
        obtain ⟨h27, hh⟩ := chk_some hh
        refine first_fact (.nrm 3 [some 1]) ?_
        refine awp_first fun K kk hK => ?_
        simp only [go_sem, h24, h26, h27]
        (repeat (refine And.intro ?_ ?_; focus (first | assumption | (try simp only [List.length_append, List.length_cons, List.length_nil] at *; omega))))
        refine step_call2 (strings_Join_ok _ _ _ h25) (by try simp only [go_sem, h24, h26, h27]; (repeat (first | exact WkL.refl _ | exact Wk.refl _ | exact Wk.nil _ | refine WkL.cons _ _ _ _ ?_ ?_ | exact WkL.nil | refine Wk.agg _ _ ?_ | refine Wk.tup _ _ ?_))) (by rfl) (by rfl) ?_
        simp only [go_sem, h24, h26, h27]
        (repeat (refine And.intro ?_ ?_; focus (first | assumption | (try simp only [List.length_append, List.length_cons, List.length_nil] at *; omega))))
        refine hK _ _ fun nx => ?_; clear hK K; try clear kk
        refine awp_ret ?_; (repeat (with_reducible first | refine then_n ?_ | refine then_r ?_ | refine then_e ?_ | refine block_n ?_ | refine block_r ?_ | refine exit_here ?_ | refine exit_on rfl ?_ | refine scope_n ?_ | refine scope_r ?_ | refine scope_e ?_ | refine cut_awp ?_))
        obtain hR := Option.some.inj hh
        subst hR
        refine ret_pure2 ?_ (by rfl)
        simp only [go_sem, rvsRes, rvRes, cellRes, tupOf, pur2, List.map_cons, List.map_append, List.head?_cons]
        (repeat (first | exact Wk.refl _ | exact WkL.refl _ | exact Wk.nil _ | refine Wk.agg _ _ ?_ | refine Wk.tup _ _ ?_ | refine WkL.cons _ _ _ _ ?_ ?_ | exact WkL.nil))
      · intro i s h; exact h.elim
      · intro s h; exact h.elim
theorem token_Of_grp : ∀ kr : Nat, (∀ (l_1 : (List api_Node)) (R : (List token_Token)), token_Of_k kr l_1 = some R → PC Tryd.prog 18 [.list 5 (l_1.map api_Node.pv)] (.own 3 (R.map token_Token.pv))) := by
  intro kr
  induction kr with
  | zero => exact (by intro l_1 R hh; rw [token_Of_k] at hh; cases hh)
  | succ kr ih =>
    have ih_token_Of := ih
    clear ih
    intro l_1 R hh
    rw [token_Of_k] at hh
    refine start_token_Of rfl ?_
    refine awp_first fun K kk hK => ?_
    simp only [go_sem]
    refine hK _ _ fun nx => ?_; clear hK K; try clear kk
    refine awp_first fun K kk hK => ?_
    simp only [go_sem]
    refine hK _ _ fun nx => ?_; clear hK K; try clear kk
    refine awp_seq ?_
    refine awp_first fun K kk hK => ?_
    simp only [go_sem]
    refine hK _ _ fun nx => ?_; clear hK K; try clear kk
    obtain ⟨e0, f0, hh⟩ := bind_ex hh
    obtain ⟨hlen0, f0⟩ := chk_some f0
    refine awp_fragE (CutTo (fun s => ∃ out_48, out_48 = e0 ∧ ∃ (v_46 : Int) (v_47 : Bool) (nx : Nat) (g3 : Nat), s = ⟨[(3, .row 3 g3 out_48.length), (8, .list 5 (l_1.map api_Node.pv)), (9, .int .i64 (l_1.length : Int)), (10, .int .i64 v_46), (11, .bool v_47)], [(3, g3, .row false 3 (out_48.map token_Token.pv))], nx⟩))
      (fun i s => False)
      (fun s => False) ?_ ?_ ?_ ?_
    · refine awp_block ?_
      refine awp_loopJ fun I hI => ?_
      have key : ∀ (suf pre : List api_Node) (v_16 : Int) (out_17 : (List token_Token)), l_1 = pre ++ suf → v_16 = (pre.length : Int) → token_Of_l0 (token_Of_k kr) suf v_16 out_17 = some e0 → ∀ (nx : Nat) (g3 : Nat), I ⟨[(3, .row 3 g3 out_17.length), (8, .list 5 (l_1.map api_Node.pv)), (9, .int .i64 (l_1.length : Int)), (10, .int .i64 v_16)], [(3, g3, .row false 3 (out_17.map token_Token.pv))], nx⟩ := by
        intro suf
        induction suf with
        | nil =>
          intro pre v_16 out_17 hsplit hidx hh nx g3
          rw [token_Of_l0] at hh
          refine hI _ ?_
          have h29 := walk_nil hsplit hidx
          refine awp_first fun K kk hK => ?_
          simp only [go_sem]
          refine hK _ _ fun nx => ?_; clear hK K; try clear kk
          refine awp_seq ?_
          refine awp_false (by first | exact congrArg PV.bool h29 | rfl) ?_
          refine awp_exit ?_; (repeat (with_reducible first | refine then_n ?_ | refine then_r ?_ | refine then_e ?_ | refine block_n ?_ | refine block_r ?_ | refine exit_here ?_ | refine exit_on rfl ?_ | refine scope_n ?_ | refine scope_r ?_ | refine scope_e ?_ | refine cut_awp ?_))
          refine fragN ?_
          refine cut_id ?_
          refine ⟨_, (Option.some.inj hh), ?_⟩
          first | exact ⟨_, _, _, _, rfl⟩ | (simp only [diptychlaw3_Cell.pv_eq, api_Attr.pv_eq, api_Node.pv_eq, token_Token.pv_eq, diptychref3_Token.pv_eq, pvL, List.map_cons, List.map_nil, List.map_append, rune1]; exact ⟨_, _, _, _, rfl⟩)
        | cons y_32 suf ih =>
          intro pre v_16 out_17 hsplit hidx hh nx g3
          rw [token_Of_l0] at hh
          refine hI _ ?_
          obtain ⟨hl0a, hl0b, hl0d, hl0w, h29⟩ := walk_cons (f := api_Node.pv) hsplit hidx hlen0
          refine awp_first fun K kk hK => ?_
          simp only [go_sem]
          refine hK _ _ fun nx => ?_; clear hK K; try clear kk
          refine awp_seq ?_
          refine awp_true (by first | exact congrArg PV.bool h29 | rfl) ?_
          refine awp_skip ?_; (repeat (with_reducible first | refine then_n ?_ | refine then_r ?_ | refine then_e ?_ | refine block_n ?_ | refine block_r ?_ | refine exit_here ?_ | refine exit_on rfl ?_ | refine scope_n ?_ | refine scope_r ?_ | refine scope_e ?_ | refine cut_awp ?_))
          refine awp_seq ?_
          refine awp_block ?_
          refine awp_first fun K kk hK => ?_
          simp only [go_sem, hl0a, hl0b, hl0d, hl0w]
          refine hK _ _ fun nx => ?_; clear hK K; try clear kk
          refine awp_seq ?_
          refine awp_first fun K kk hK => ?_
          simp only [go_sem, hl0a, hl0b, hl0d, hl0w]
          refine hK _ _ fun nx => ?_; clear hK K; try clear kk
          by_cases h30 : (y_32.Kind == ([116, 101, 120, 116] : Str)) = true
          · rw [if_pos h30] at hh
            refine awp_true (by first | exact congrArg PV.bool h30 | rfl) ?_
            refine awp_seq ?_
            refine awp_first fun K kk hK => ?_
            simp only [go_sem, hl0a, hl0b, hl0d, hl0w]
            refine hK _ _ fun nx => ?_; clear hK K; try clear kk
            obtain ⟨e7, f7, hh⟩ := bind_ex hh
            refine awp_fragE (CutTo (fun s => ∃ out_39, out_39 = e7 ∧ ∃ (v_40 : Nat) (nx : Nat) (g3 : Nat) (g5 : Nat) (g19 : Nat), s = ⟨[(3, .row 3 g3 out_39.length), (5, .box 5 g5 0), (8, .list 5 (l_1.map api_Node.pv)), (9, .int .i64 (l_1.length : Int)), (10, .int .i64 v_16), (19, .box 19 g19 0), (20, .tup [.bool false]), (21, .bool false)], [(3, g3, .row false 3 (out_39.map token_Token.pv)), (5, g5, .var 27 [.str y_32.Kind, .str y_32.Text, .list 1 (y_32.Marks.map PV.str), .list 2 (y_32.Attrs.map api_Attr.pv), .list 5 (y_32.Kids.map api_Node.pv)]), (19, g19, .iter y_32.Text v_40)], nx⟩))
              (fun i s => False)
              (fun s => False) ?_ ?_ ?_ ?_
            · refine awp_block ?_
              refine awp_loopJ fun I hI => ?_
              obtain ⟨k, f7⟩ := lim_some f7
              have key : ∀ (k : Nat) (out_35 : (List token_Token)) (v_36 : Nat), token_Of_l7 y_32 k out_35 v_36 = some e7 → ∀ (nx : Nat) (g3 : Nat) (g5 : Nat) (g19 : Nat), I ⟨[(3, .row 3 g3 out_35.length), (5, .box 5 g5 0), (8, .list 5 (l_1.map api_Node.pv)), (9, .int .i64 (l_1.length : Int)), (10, .int .i64 v_16), (19, .box 19 g19 0)], [(3, g3, .row false 3 (out_35.map token_Token.pv)), (5, g5, .var 27 [.str y_32.Kind, .str y_32.Text, .list 1 (y_32.Marks.map PV.str), .list 2 (y_32.Attrs.map api_Attr.pv), .list 5 (y_32.Kids.map api_Node.pv)]), (19, g19, .iter y_32.Text v_36)], nx⟩ := by
                intro k
                induction k with
                | zero => intro out_35 v_36 hh; rw [token_Of_l7] at hh; cases hh
                | succ k ih =>
                  intro out_35 v_36 hh nx g3 g5 g19
                  rw [token_Of_l7] at hh
                  refine hI _ ?_
                  refine awp_assoc ?_
                  refine awp_seq ?_
                  obtain ⟨e9, f9, hh⟩ := bind_ex hh
                  refine awp_frag (fun s => .inr () = e9 ∧ ∃ (nx : Nat) (g3 : Nat) (g5 : Nat) (g19 : Nat), s = ⟨[(3, .row 3 g3 out_35.length), (5, .box 5 g5 0), (8, .list 5 (l_1.map api_Node.pv)), (9, .int .i64 (l_1.length : Int)), (10, .int .i64 v_16), (19, .box 19 g19 0), (20, .tup [.bool true, .int .i64 (v_36 : Int), .int .i32 (runeAt y_32.Text v_36)]), (21, .bool true)], [(3, g3, .row false 3 (out_35.map token_Token.pv)), (5, g5, .var 27 [.str y_32.Kind, .str y_32.Text, .list 1 (y_32.Marks.map PV.str), .list 2 (y_32.Attrs.map api_Attr.pv), .list 5 (y_32.Kids.map api_Node.pv)]), (19, g19, .iter y_32.Text (v_36 + runeW y_32.Text v_36))], nx⟩)
                    (fun i s => (i = 2 ∧ .inl () = e9 ∧ ∃ (nx : Nat) (g3 : Nat) (g5 : Nat) (g19 : Nat), s = ⟨[(3, .row 3 g3 out_35.length), (5, .box 5 g5 0), (8, .list 5 (l_1.map api_Node.pv)), (9, .int .i64 (l_1.length : Int)), (10, .int .i64 v_16), (19, .box 19 g19 0), (20, .tup [.bool false]), (21, .bool false)], [(3, g3, .row false 3 (out_35.map token_Token.pv)), (5, g5, .var 27 [.str y_32.Kind, .str y_32.Text, .list 1 (y_32.Marks.map PV.str), .list 2 (y_32.Attrs.map api_Attr.pv), .list 5 (y_32.Kids.map api_Node.pv)]), (19, g19, .iter y_32.Text v_36)], nx⟩))
                    (fun s => False) ?_ ?_ ?_ ?_
                  · have hh := f9
                    by_cases h34 : (decide (v_36 < y_32.Text.length)) = true
                    · rw [if_pos h34] at hh
                      refine awp_first fun K kk hK => ?_
                      simp only [go_sem, h34, of_decide_eq_true h34, hl0a, hl0b, hl0d, hl0w]
                      (repeat (refine And.intro ?_ ?_; focus (first | assumption | (try simp only [List.length_append, List.length_cons, List.length_nil] at *; omega))))
                      refine hK _ _ fun nx => ?_; clear hK K; try clear kk
                      refine awp_true rfl ?_
                      refine awp_skip ?_; (repeat (with_reducible first | refine then_n ?_ | refine then_r ?_ | refine then_e ?_ | refine block_n ?_ | refine block_r ?_ | refine exit_here ?_ | refine exit_on rfl ?_ | refine scope_n ?_ | refine scope_r ?_ | refine scope_e ?_ | refine cut_awp ?_))
                      refine fragN ?_
                      refine cut_id ?_
                      refine ⟨(Option.some.inj hh), ?_⟩
                      first | exact ⟨_, _, _, _, rfl⟩ | (simp only [diptychlaw3_Cell.pv_eq, api_Attr.pv_eq, api_Node.pv_eq, token_Token.pv_eq, diptychref3_Token.pv_eq, pvL, List.map_cons, List.map_nil, List.map_append, rune1]; exact ⟨_, _, _, _, rfl⟩)
                    · rw [if_neg h34] at hh
                      replace h34 := Bool.eq_false_iff.mpr h34
                      refine awp_first fun K kk hK => ?_
                      simp only [go_sem, h34, of_decide_eq_false h34, hl0a, hl0b, hl0d, hl0w]
                      (repeat (refine And.intro ?_ ?_; focus (first | assumption | (try simp only [List.length_append, List.length_cons, List.length_nil] at *; omega))))
                      refine hK _ _ fun nx => ?_; clear hK K; try clear kk
                      refine awp_false rfl ?_
                      refine awp_exit ?_; (repeat (with_reducible first | refine then_n ?_ | refine then_r ?_ | refine then_e ?_ | refine block_n ?_ | refine block_r ?_ | refine exit_here ?_ | refine exit_on rfl ?_ | refine scope_n ?_ | refine scope_r ?_ | refine scope_e ?_ | refine cut_awp ?_))
                      refine fragE ⟨rfl, (Option.some.inj hh), ?_⟩
                      first | exact ⟨_, _, _, _, rfl⟩ | (simp only [diptychlaw3_Cell.pv_eq, api_Attr.pv_eq, api_Node.pv_eq, token_Token.pv_eq, diptychref3_Token.pv_eq, pvL, List.map_cons, List.map_nil, List.map_append, rune1]; exact ⟨_, _, _, _, rfl⟩)
                  · rintro s ⟨rfl, nx, g3, g5, g19, rfl⟩
                    try dsimp only at hh
                    refine awp_block ?_
                    refine awp_first fun K kk hK => ?_
                    simp only [go_sem, hl0a, hl0b, hl0d, hl0w]
                    refine hK _ _ fun nx => ?_; clear hK K; try clear kk
                    obtain ⟨head_37, h35, hh⟩ := bind_ex hh
                    obtain ⟨l_38, h36, hh⟩ := bind_ex hh
                    obtain ⟨h36a, h36c⟩ := app_some h36
                    have h36d := app_map (f := token_Token.pv) h36c
                    have h36e := app_len h36c
                    try simp only [List.length_cons, List.length_nil, Nat.zero_add, Nat.reduceAdd] at h36a h36e
                    try simp only [h36e] at h36a
                    try simp only [List.map_cons, List.map_nil, List.nil_append, List.append_nil, List.cons_append, List.singleton_append, rune1, diptychlaw3_Cell.pv_eq, api_Attr.pv_eq, api_Node.pv_eq, token_Token.pv_eq, diptychref3_Token.pv_eq, pvL] at h36d
                    refine awp_region fun K kk hK => ?_
                    simp only [go_sem, h36a, h36d, h36e, hl0a, hl0b, hl0d, hl0w]
                    (repeat (refine And.intro ?_ ?_; focus (first | assumption | (try simp only [List.length_append, List.length_cons, List.length_nil] at *; omega))))
                    refine step_call2 (codec_Head_ok _ _ h35) (by try simp only [go_sem, h36a, h36d, h36e, hl0a, hl0b, hl0d, hl0w]; (repeat (first | exact WkL.refl _ | exact Wk.refl _ | exact Wk.nil _ | refine WkL.cons _ _ _ _ ?_ ?_ | exact WkL.nil | refine Wk.agg _ _ ?_ | refine Wk.tup _ _ ?_))) (by rfl) (by rfl) ?_
                    simp only [go_sem, h36a, h36d, h36e, hl0a, hl0b, hl0d, hl0w]
                    (repeat (refine And.intro ?_ ?_; focus (first | assumption | (try simp only [List.length_append, List.length_cons, List.length_nil] at *; omega))))
                    refine hK _ _ fun nx => ?_; clear hK K; try clear kk
                    (repeat (with_reducible first | refine then_n ?_ | refine then_r ?_ | refine then_e ?_ | refine block_n ?_ | refine block_r ?_ | refine exit_here ?_ | refine exit_on rfl ?_ | refine scope_n ?_ | refine scope_r ?_ | refine scope_e ?_ | refine cut_awp ?_))
                    have ih' := ih _ _ hh nx
                    refine cut_id ?_
                    first | exact ih' _ _ _ | (simp only [diptychlaw3_Cell.pv_eq, api_Attr.pv_eq, api_Node.pv_eq, token_Token.pv_eq, diptychref3_Token.pv_eq, pvL, List.map_cons, List.map_nil, List.map_append, rune1, h36e] at ih' ⊢; exact ih' _ _ _)
                  · intro i s h
                    obtain ⟨rfl, rfl, nx, g3, g5, g19, rfl⟩ := h
                    try dsimp only at hh
                    (repeat (with_reducible first | refine then_n ?_ | refine then_r ?_ | refine then_e ?_ | refine block_n ?_ | refine block_r ?_ | refine exit_here ?_ | refine exit_on rfl ?_ | refine scope_n ?_ | refine scope_r ?_ | refine scope_e ?_ | refine cut_awp ?_))
                    refine fragN ?_
                    refine cut_id ?_
                    refine ⟨_, (Option.some.inj hh), ?_⟩
                    first | exact ⟨_, _, _, _, _, rfl⟩ | (simp only [diptychlaw3_Cell.pv_eq, api_Attr.pv_eq, api_Node.pv_eq, token_Token.pv_eq, diptychref3_Token.pv_eq, pvL, List.map_cons, List.map_nil, List.map_append, rune1]; exact ⟨_, _, _, _, _, rfl⟩)
                  · intro s h; exact h.elim
              exact key _ _ _ f7 _ _ _ _
            · rintro s ⟨t, hless, out_39, rfl, v_40, nx, g3, g5, g19, rfl⟩
              try dsimp only at hh
              (repeat (with_reducible first | refine then_n ?_ | refine then_r ?_ | refine then_e ?_ | refine block_n ?_ | refine block_r ?_ | refine exit_here ?_ | refine exit_on rfl ?_ | refine scope_n ?_ | refine scope_r ?_ | refine scope_e ?_))
              first | (refine cut_less hless ?_; try refine cut_awp ?_) | refine frag_less hless ?_ | refine body_less hless ?_
              refine awp_exit ?_; (repeat (with_reducible first | refine then_n ?_ | refine then_r ?_ | refine then_e ?_ | refine block_n ?_ | refine block_r ?_ | refine exit_here ?_ | refine exit_on rfl ?_ | refine scope_n ?_ | refine scope_r ?_ | refine scope_e ?_ | refine cut_awp ?_))
              refine awp_region fun K kk hK => ?_
              simp only [go_sem, hl0a, hl0b, hl0d, hl0w]
              refine hK _ _ fun nx => ?_; clear hK K; try clear kk
              (repeat (with_reducible first | refine then_n ?_ | refine then_r ?_ | refine then_e ?_ | refine block_n ?_ | refine block_r ?_ | refine exit_here ?_ | refine exit_on rfl ?_ | refine scope_n ?_ | refine scope_r ?_ | refine scope_e ?_ | refine cut_awp ?_))
              have ih' := ih (pre ++ [y_32]) (v_16 + 1) _ (by rw [hsplit]; simp) (by simp [hidx]) hh nx
              refine cut_id ?_
              first | exact ih' _ | (simp only [diptychlaw3_Cell.pv_eq, api_Attr.pv_eq, api_Node.pv_eq, token_Token.pv_eq, diptychref3_Token.pv_eq, pvL, List.map_cons, List.map_nil, List.map_append, rune1] at ih' ⊢; exact ih' _)
            · intro i s h; exact h.elim
            · intro s h; exact h.elim
          · rw [if_neg h30] at hh
            replace h30 := Bool.eq_false_iff.mpr h30
            refine awp_false (by first | exact congrArg PV.bool h30 | rfl) ?_
            refine awp_skip ?_; (repeat (with_reducible first | refine then_n ?_ | refine then_r ?_ | refine then_e ?_ | refine block_n ?_ | refine block_r ?_ | refine exit_here ?_ | refine exit_on rfl ?_ | refine scope_n ?_ | refine scope_r ?_ | refine scope_e ?_ | refine cut_awp ?_))
            obtain ⟨head_41, h37, hh⟩ := bind_ex hh
            obtain ⟨l_42, h38, hh⟩ := bind_ex hh
            obtain ⟨h38a, h38c⟩ := app_some h38
            have h38d := app_map (f := token_Token.pv) h38c
            have h38e := app_len h38c
            try simp only [List.length_cons, List.length_nil, Nat.zero_add, Nat.reduceAdd] at h38a h38e
            try simp only [h38e] at h38a
            try simp only [List.map_cons, List.map_nil, List.nil_append, List.append_nil, List.cons_append, List.singleton_append, rune1, diptychlaw3_Cell.pv_eq, api_Attr.pv_eq, api_Node.pv_eq, token_Token.pv_eq, diptychref3_Token.pv_eq, pvL] at h38d
            refine awp_first fun K kk hK => ?_
            simp only [go_sem, h38a, h38d, h38e, hl0a, hl0b, hl0d, hl0w]
            (repeat (refine And.intro ?_ ?_; focus (first | assumption | (try simp only [List.length_append, List.length_cons, List.length_nil] at *; omega))))
            refine step_call2 (codec_Head_ok _ _ h37) (by try simp only [go_sem, h38a, h38d, h38e, hl0a, hl0b, hl0d, hl0w]; (repeat (first | exact WkL.refl _ | exact Wk.refl _ | exact Wk.nil _ | refine WkL.cons _ _ _ _ ?_ ?_ | exact WkL.nil | refine Wk.agg _ _ ?_ | refine Wk.tup _ _ ?_))) (by rfl) (by rfl) ?_
            simp only [go_sem, h38a, h38d, h38e, hl0a, hl0b, hl0d, hl0w]
            (repeat (refine And.intro ?_ ?_; focus (first | assumption | (try simp only [List.length_append, List.length_cons, List.length_nil] at *; omega))))
            refine hK _ _ fun nx => ?_; clear hK K; try clear kk
            obtain ⟨of_43, h39, hh⟩ := bind_ex hh
            obtain ⟨l_44, h40, hh⟩ := bind_ex hh
            obtain ⟨h40a, h40c⟩ := app_some h40
            have h40d := app_map (f := token_Token.pv) h40c
            have h40e := app_len h40c
            try simp only [List.length_cons, List.length_nil, Nat.zero_add, Nat.reduceAdd] at h40a h40e
            try simp only [h40e] at h40a
            try simp only [List.map_cons, List.map_nil, List.nil_append, List.append_nil, List.cons_append, List.singleton_append, rune1, diptychlaw3_Cell.pv_eq, api_Attr.pv_eq, api_Node.pv_eq, token_Token.pv_eq, diptychref3_Token.pv_eq, pvL] at h40d
            refine awp_first fun K kk hK => ?_
            simp only [go_sem, h40a, h40d, h40e, hl0a, hl0b, hl0d, hl0w]
            (repeat (refine And.intro ?_ ?_; focus (first | assumption | (try simp only [List.length_append, List.length_cons, List.length_nil] at *; omega))))
            refine step_call2 (ih_token_Of _ _ h39).list (by try simp only [go_sem, h40a, h40d, h40e, hl0a, hl0b, hl0d, hl0w]; (repeat (first | exact WkL.refl _ | exact Wk.refl _ | exact Wk.nil _ | refine WkL.cons _ _ _ _ ?_ ?_ | exact WkL.nil | refine Wk.agg _ _ ?_ | refine Wk.tup _ _ ?_))) (by rfl) (by rfl) ?_
            simp only [go_sem, h40a, h40d, h40e, hl0a, hl0b, hl0d, hl0w]
            (repeat (refine And.intro ?_ ?_; focus (first | assumption | (try simp only [List.length_append, List.length_cons, List.length_nil] at *; omega))))
            refine hK _ _ fun nx => ?_; clear hK K; try clear kk
            obtain ⟨l_45, h41, hh⟩ := bind_ex hh
            obtain ⟨h41a, h41c⟩ := app_some h41
            have h41d := app_map (f := token_Token.pv) h41c
            have h41e := app_len h41c
            try simp only [List.length_cons, List.length_nil, Nat.zero_add, Nat.reduceAdd] at h41a h41e
            try simp only [h41e] at h41a
            try simp only [List.map_cons, List.map_nil, List.nil_append, List.append_nil, List.cons_append, List.singleton_append, rune1, diptychlaw3_Cell.pv_eq, api_Attr.pv_eq, api_Node.pv_eq, token_Token.pv_eq, diptychref3_Token.pv_eq, pvL] at h41d
            refine awp_region fun K kk hK => ?_
            simp only [go_sem, h41a, h41d, h41e, hl0a, hl0b, hl0d, hl0w]
            (repeat (refine And.intro ?_ ?_; focus (first | assumption | (try simp only [List.length_append, List.length_cons, List.length_nil] at *; omega))))
            refine hK _ _ fun nx => ?_; clear hK K; try clear kk
            (repeat (with_reducible first | refine then_n ?_ | refine then_r ?_ | refine then_e ?_ | refine block_n ?_ | refine block_r ?_ | refine exit_here ?_ | refine exit_on rfl ?_ | refine scope_n ?_ | refine scope_r ?_ | refine scope_e ?_ | refine cut_awp ?_))
            refine awp_region fun K kk hK => ?_
            simp only [go_sem, hl0a, hl0b, hl0d, hl0w]
            refine hK _ _ fun nx => ?_; clear hK K; try clear kk
            (repeat (with_reducible first | refine then_n ?_ | refine then_r ?_ | refine then_e ?_ | refine block_n ?_ | refine block_r ?_ | refine exit_here ?_ | refine exit_on rfl ?_ | refine scope_n ?_ | refine scope_r ?_ | refine scope_e ?_ | refine cut_awp ?_))
            have ih' := ih (pre ++ [y_32]) (v_16 + 1) _ (by rw [hsplit]; simp) (by simp [hidx]) hh nx
            refine cut_id ?_
            first | exact ih' _ | (simp only [diptychlaw3_Cell.pv_eq, api_Attr.pv_eq, api_Node.pv_eq, token_Token.pv_eq, diptychref3_Token.pv_eq, pvL, List.map_cons, List.map_nil, List.map_append, rune1, h38e, h40e, h41e] at ih' ⊢; exact ih' _)
      exact key l_1 [] _ _ rfl rfl f0 _ _
    · rintro s ⟨t, hless, out_48, rfl, v_46, v_47, nx, g3, rfl⟩
      try dsimp only at hh
      (repeat (with_reducible first | refine then_n ?_ | refine then_r ?_ | refine then_e ?_ | refine block_n ?_ | refine block_r ?_ | refine exit_here ?_ | refine exit_on rfl ?_ | refine scope_n ?_ | refine scope_r ?_ | refine scope_e ?_))
      first | (refine cut_less hless ?_; try refine cut_awp ?_) | refine frag_less hless ?_ | refine body_less hless ?_
      refine awp_first fun K kk hK => ?_
      simp only [go_sem]
      refine hK _ _ fun nx => ?_; clear hK K; try clear kk
      refine awp_ret ?_; (repeat (with_reducible first | refine then_n ?_ | refine then_r ?_ | refine then_e ?_ | refine block_n ?_ | refine block_r ?_ | refine exit_here ?_ | refine exit_on rfl ?_ | refine scope_n ?_ | refine scope_r ?_ | refine scope_e ?_ | refine cut_awp ?_))
      obtain hR := Option.some.inj hh
      subst hR
      exact ret_own (by rfl) (by rfl) (by rfl) (by simp only [List.length_map, List.length_cons, List.length_nil, Nat.zero_add, Nat.reduceAdd]) (by first | rfl | (simp only [diptychlaw3_Cell.pv_eq, api_Attr.pv_eq, api_Node.pv_eq, token_Token.pv_eq, diptychref3_Token.pv_eq, pvL, List.map_cons, List.map_nil, List.map_append, rune1]; done) | (simp only [diptychlaw3_Cell.pv_eq, api_Attr.pv_eq, api_Node.pv_eq, token_Token.pv_eq, diptychref3_Token.pv_eq, pvL, List.map_cons, List.map_nil, List.map_append, rune1]; rfl))
    · intro i s h; exact h.elim
    · intro s h; exact h.elim
theorem token_Of_ok (l_1 : (List api_Node)) (R : (List token_Token)) (hh : token_Of l_1 = some R) : PC Tryd.prog 18 [.list 5 (l_1.map api_Node.pv)] (.own 3 (R.map token_Token.pv)) := by
  rw [token_Of] at hh
  obtain ⟨kr, hh⟩ := lim_some hh
  exact (token_Of_grp kr) _ _ hh
theorem diptychlaw3_shown_ok (R : Bool) (hh : diptychlaw3_shown = some R) : PC Tryd.prog 15 [] (.bool R) := by
  rw [diptychlaw3_shown] at hh
  refine start_diptychlaw3_shown rfl ?_
  refine awp_first fun K kk hK => ?_
  simp only [go_sem]
  refine hK _ _ fun nx => ?_; clear hK K; try clear kk
  obtain ⟨of_1, h1, hh⟩ := bind_ex hh
  refine awp_first fun K kk hK => ?_
  simp only [go_sem]
  refine step_call2 (token_Of_ok _ _ h1).list (by try simp only [go_sem]; (repeat (first | exact WkL.refl _ | exact Wk.refl _ | exact Wk.nil _ | refine WkL.cons _ _ _ _ ?_ ?_ | exact WkL.nil | refine Wk.agg _ _ ?_ | refine Wk.tup _ _ ?_))) (by rfl) (by rfl) ?_
  simp only [go_sem]
  refine hK _ _ fun nx => ?_; clear hK K; try clear kk
  by_cases h2 : ((of_1.length : Int) == (4 : Int)) = true
  · rw [if_pos h2] at hh
    obtain ⟨x_2, h3, hh⟩ := bind_ex hh
    obtain ⟨h3a, h3b, h3c⟩ := rd_some h3
    have h3d := rd_get (f := token_Token.pv) h3c
    have h3f := rd_more (f := token_Token.pv) h3c
    try simp only [Int.toNat_natCast, Int.reduceToNat] at h3d h3f
    by_cases h4 : ((((x_2.Kind == (111 : Int)) && ((x_2.Text == ([] : Str)) && (x_2.Head == ([112, 97, 114, 97] : Str)))) != false)) = true
    · rw [if_pos h4] at hh
      obtain ⟨x_3, h5, hh⟩ := bind_ex hh
      obtain ⟨h5a, h5b, h5c⟩ := rd_some h5
      have h5d := rd_get (f := token_Token.pv) h5c
      have h5f := rd_more (f := token_Token.pv) h5c
      try simp only [Int.toNat_natCast, Int.reduceToNat] at h5d h5f
      by_cases h6 : ((((x_3.Kind == (116 : Int)) && ((x_3.Text == ([104] : Str)) && (x_3.Head == ([] : Str)))) != false)) = true
      · rw [if_pos h6] at hh
        obtain ⟨x_4, h7, hh⟩ := bind_ex hh
        obtain ⟨h7a, h7b, h7c⟩ := rd_some h7
        have h7d := rd_get (f := token_Token.pv) h7c
        have h7f := rd_more (f := token_Token.pv) h7c
        try simp only [Int.toNat_natCast, Int.reduceToNat] at h7d h7f
        refine awp_first fun K kk hK => ?_
        simp only [go_sem, h2, h3a, h3b, h3d, h3f.1, h3f.2, h2, h4, h5a, h5b, h5d, h5f.1, h5f.2, h4, h6, h7a, h7b, h7d, h7f.1, h7f.2, h6]
        (repeat (refine And.intro ?_ ?_; focus (first | assumption | (try simp only [List.length_append, List.length_cons, List.length_nil] at *; omega))))
        refine hK _ _ fun nx => ?_; clear hK K; try clear kk
        refine awp_ret ?_; (repeat (with_reducible first | refine then_n ?_ | refine then_r ?_ | refine then_e ?_ | refine block_n ?_ | refine block_r ?_ | refine exit_here ?_ | refine exit_on rfl ?_ | refine scope_n ?_ | refine scope_r ?_ | refine scope_e ?_ | refine cut_awp ?_))
        obtain hR := Option.some.inj hh
        subst hR
        refine ret_pure2 ?_ (by rfl)
        simp only [go_sem, rvsRes, rvRes, cellRes, tupOf, pur2, List.map_cons, List.map_append, List.head?_cons]
        (repeat (first | exact Wk.refl _ | exact WkL.refl _ | exact Wk.nil _ | refine Wk.agg _ _ ?_ | refine Wk.tup _ _ ?_ | refine WkL.cons _ _ _ _ ?_ ?_ | exact WkL.nil))
      · rw [if_neg h6] at hh
        replace h6 := Bool.eq_false_iff.mpr h6
        refine awp_first fun K kk hK => ?_
        simp only [go_sem, h2, h3a, h3b, h3d, h3f.1, h3f.2, h2, h4, h5a, h5b, h5d, h5f.1, h5f.2, h4, h6, h6]
        (repeat (refine And.intro ?_ ?_; focus (first | assumption | (try simp only [List.length_append, List.length_cons, List.length_nil] at *; omega))))
        refine hK _ _ fun nx => ?_; clear hK K; try clear kk
        refine awp_ret ?_; (repeat (with_reducible first | refine then_n ?_ | refine then_r ?_ | refine then_e ?_ | refine block_n ?_ | refine block_r ?_ | refine exit_here ?_ | refine exit_on rfl ?_ | refine scope_n ?_ | refine scope_r ?_ | refine scope_e ?_ | refine cut_awp ?_))
        obtain hR := Option.some.inj hh
        subst hR
        refine ret_pure2 ?_ (by rfl)
        simp only [go_sem, rvsRes, rvRes, cellRes, tupOf, pur2, List.map_cons, List.map_append, List.head?_cons]
        (repeat (first | exact Wk.refl _ | exact WkL.refl _ | exact Wk.nil _ | refine Wk.agg _ _ ?_ | refine Wk.tup _ _ ?_ | refine WkL.cons _ _ _ _ ?_ ?_ | exact WkL.nil))
    · rw [if_neg h4] at hh
      replace h4 := Bool.eq_false_iff.mpr h4
      refine awp_first fun K kk hK => ?_
      simp only [go_sem, h2, h3a, h3b, h3d, h3f.1, h3f.2, h2, h4, h4]
      (repeat (refine And.intro ?_ ?_; focus (first | assumption | (try simp only [List.length_append, List.length_cons, List.length_nil] at *; omega))))
      refine hK _ _ fun nx => ?_; clear hK K; try clear kk
      refine awp_ret ?_; (repeat (with_reducible first | refine then_n ?_ | refine then_r ?_ | refine then_e ?_ | refine block_n ?_ | refine block_r ?_ | refine exit_here ?_ | refine exit_on rfl ?_ | refine scope_n ?_ | refine scope_r ?_ | refine scope_e ?_ | refine cut_awp ?_))
      obtain hR := Option.some.inj hh
      subst hR
      refine ret_pure2 ?_ (by rfl)
      simp only [go_sem, rvsRes, rvRes, cellRes, tupOf, pur2, List.map_cons, List.map_append, List.head?_cons]
      (repeat (first | exact Wk.refl _ | exact WkL.refl _ | exact Wk.nil _ | refine Wk.agg _ _ ?_ | refine Wk.tup _ _ ?_ | refine WkL.cons _ _ _ _ ?_ ?_ | exact WkL.nil))
  · rw [if_neg h2] at hh
    replace h2 := Bool.eq_false_iff.mpr h2
    refine awp_first fun K kk hK => ?_
    simp only [go_sem, h2, h2]
    (repeat (refine And.intro ?_ ?_; focus (first | assumption | (try simp only [List.length_append, List.length_cons, List.length_nil] at *; omega))))
    refine hK _ _ fun nx => ?_; clear hK K; try clear kk
    refine awp_ret ?_; (repeat (with_reducible first | refine then_n ?_ | refine then_r ?_ | refine then_e ?_ | refine block_n ?_ | refine block_r ?_ | refine exit_here ?_ | refine exit_on rfl ?_ | refine scope_n ?_ | refine scope_r ?_ | refine scope_e ?_ | refine cut_awp ?_))
    obtain hR := Option.some.inj hh
    subst hR
    refine ret_pure2 ?_ (by rfl)
    simp only [go_sem, rvsRes, rvRes, cellRes, tupOf, pur2, List.map_cons, List.map_append, List.head?_cons]
    (repeat (first | exact Wk.refl _ | exact WkL.refl _ | exact Wk.nil _ | refine Wk.agg _ _ ?_ | refine Wk.tup _ _ ?_ | refine WkL.cons _ _ _ _ ?_ ?_ | exact WkL.nil))
theorem diptychlaw3_short_ok (n_1 : api_Node) (R : Bool) (hh : diptychlaw3_short n_1 = some R) : PC Tryd.prog 16 [.agg [.str n_1.Kind, .str n_1.Text, .list 1 (n_1.Marks.map PV.str), .list 2 (n_1.Attrs.map api_Attr.pv), .list 5 (n_1.Kids.map api_Node.pv)]] (.bool R) := by
  rw [diptychlaw3_short] at hh
  refine start_diptychlaw3_short rfl ?_
  refine awp_first fun K kk hK => ?_
  simp only [go_sem]
  refine hK _ _ fun nx => ?_; clear hK K; try clear kk
  refine awp_first fun K kk hK => ?_
  simp only [go_sem]
  refine hK _ _ fun nx => ?_; clear hK K; try clear kk
  refine awp_seq ?_
  refine awp_first fun K kk hK => ?_
  simp only [go_sem]
  refine hK _ _ fun nx => ?_; clear hK K; try clear kk
  obtain ⟨e0, f0, hh⟩ := bind_ex hh
  obtain ⟨hlen0, f0⟩ := chk_some f0
  refine awp_fragE (CutTo (fun s => ∃ left_7, left_7 = e0 ∧ ∃ (i_8 : Int) (v_9 : Bool) (nx : Nat) (g1 : Nat), s = ⟨[(1, .box 1 g1 0), (3, .int .i64 left_7), (4, .int .i64 i_8), (22, .bool v_9)], [(1, g1, .var 27 [.str n_1.Kind, .str n_1.Text, .list 1 (n_1.Marks.map PV.str), .list 2 (n_1.Attrs.map api_Attr.pv), .list 5 (n_1.Kids.map api_Node.pv)])], nx⟩))
    (fun i s => False)
    (fun s => False) ?_ ?_ ?_ ?_
  · refine awp_block ?_
    refine awp_loopJ fun I hI => ?_
    have key : ∀ (suf pre : List Str) (i_4 : Int) (left_3 : Int), n_1.Marks = pre ++ suf → i_4 = (pre.length : Int) → diptychlaw3_short_l0 suf i_4 left_3 = some e0 → ∀ (nx : Nat) (g1 : Nat), I ⟨[(1, .box 1 g1 0), (3, .int .i64 left_3), (4, .int .i64 i_4)], [(1, g1, .var 27 [.str n_1.Kind, .str n_1.Text, .list 1 (n_1.Marks.map PV.str), .list 2 (n_1.Attrs.map api_Attr.pv), .list 5 (n_1.Kids.map api_Node.pv)])], nx⟩ := by
      intro suf
      induction suf with
      | nil =>
        intro pre i_4 left_3 hsplit hidx hh nx g1
        rw [diptychlaw3_short_l0] at hh
        refine hI _ ?_
        have h7 := walk_nil hsplit hidx
        refine awp_seq ?_
        refine awp_first fun K kk hK => ?_
        simp only [go_sem, h7, of_decide_eq_false h7, h7, of_decide_eq_false h7]
        (repeat (refine And.intro ?_ ?_; focus (first | assumption | (try simp only [List.length_append, List.length_cons, List.length_nil] at *; omega))))
        refine hK _ _ fun nx => ?_; clear hK K; try clear kk
        refine awp_false rfl ?_
        refine awp_exit ?_; (repeat (with_reducible first | refine then_n ?_ | refine then_r ?_ | refine then_e ?_ | refine block_n ?_ | refine block_r ?_ | refine exit_here ?_ | refine exit_on rfl ?_ | refine scope_n ?_ | refine scope_r ?_ | refine scope_e ?_ | refine cut_awp ?_))
        refine fragN ?_
        refine cut_id ?_
        refine ⟨_, (Option.some.inj hh), ?_⟩
        first | exact ⟨_, _, _, _, rfl⟩ | (simp only [diptychlaw3_Cell.pv_eq, api_Attr.pv_eq, api_Node.pv_eq, token_Token.pv_eq, diptychref3_Token.pv_eq, pvL, List.map_cons, List.map_nil, List.map_append, rune1]; exact ⟨_, _, _, _, rfl⟩)
      | cons y_6 suf ih =>
        intro pre i_4 left_3 hsplit hidx hh nx g1
        rw [diptychlaw3_short_l0] at hh
        refine hI _ ?_
        obtain ⟨hl0a, hl0b, hl0d, hl0w, h7⟩ := walk_cons (f := PV.str) hsplit hidx hlen0
        refine awp_seq ?_
        refine awp_first fun K kk hK => ?_
        simp only [go_sem, h7, of_decide_eq_true h7, h7, of_decide_eq_true h7, hl0a, hl0b, hl0d, hl0w]
        (repeat (refine And.intro ?_ ?_; focus (first | assumption | (try simp only [List.length_append, List.length_cons, List.length_nil] at *; omega))))
        refine hK _ _ fun nx => ?_; clear hK K; try clear kk
        by_cases h8 : (decide (left_3 > (0 : Int))) = true
        · rw [if_pos h8] at hh
          refine awp_true (by first | exact congrArg PV.bool h8 | rfl) ?_
          refine awp_skip ?_; (repeat (with_reducible first | refine then_n ?_ | refine then_r ?_ | refine then_e ?_ | refine block_n ?_ | refine block_r ?_ | refine exit_here ?_ | refine exit_on rfl ?_ | refine scope_n ?_ | refine scope_r ?_ | refine scope_e ?_ | refine cut_awp ?_))
          refine awp_seq ?_
          refine awp_block ?_
          refine awp_region fun K kk hK => ?_
          simp only [go_sem, hl0a, hl0b, hl0d, hl0w]
          refine hK _ _ fun nx => ?_; clear hK K; try clear kk
          (repeat (with_reducible first | refine then_n ?_ | refine then_r ?_ | refine then_e ?_ | refine block_n ?_ | refine block_r ?_ | refine exit_here ?_ | refine exit_on rfl ?_ | refine scope_n ?_ | refine scope_r ?_ | refine scope_e ?_ | refine cut_awp ?_))
          refine awp_region fun K kk hK => ?_
          simp only [go_sem, hl0a, hl0b, hl0d, hl0w]
          refine hK _ _ fun nx => ?_; clear hK K; try clear kk
          (repeat (with_reducible first | refine then_n ?_ | refine then_r ?_ | refine then_e ?_ | refine block_n ?_ | refine block_r ?_ | refine exit_here ?_ | refine exit_on rfl ?_ | refine scope_n ?_ | refine scope_r ?_ | refine scope_e ?_ | refine cut_awp ?_))
          have ih' := ih (pre ++ [y_6]) (i_4 + 1) _ (by rw [hsplit]; simp) (by simp [hidx]) hh nx
          refine cut_id ?_
          first | exact ih' _ | (simp only [diptychlaw3_Cell.pv_eq, api_Attr.pv_eq, api_Node.pv_eq, token_Token.pv_eq, diptychref3_Token.pv_eq, pvL, List.map_cons, List.map_nil, List.map_append, rune1] at ih' ⊢; exact ih' _)
        · rw [if_neg h8] at hh
          replace h8 := Bool.eq_false_iff.mpr h8
          refine awp_false (by first | exact congrArg PV.bool h8 | rfl) ?_
          refine awp_exit ?_; (repeat (with_reducible first | refine then_n ?_ | refine then_r ?_ | refine then_e ?_ | refine block_n ?_ | refine block_r ?_ | refine exit_here ?_ | refine exit_on rfl ?_ | refine scope_n ?_ | refine scope_r ?_ | refine scope_e ?_ | refine cut_awp ?_))
          refine fragN ?_
          refine cut_id ?_
          refine ⟨_, (Option.some.inj hh), ?_⟩
          first | exact ⟨_, _, _, _, rfl⟩ | (simp only [diptychlaw3_Cell.pv_eq, api_Attr.pv_eq, api_Node.pv_eq, token_Token.pv_eq, diptychref3_Token.pv_eq, pvL, List.map_cons, List.map_nil, List.map_append, rune1]; exact ⟨_, _, _, _, rfl⟩)
    exact key n_1.Marks [] _ _ rfl rfl f0 _ _
  · rintro s ⟨t, hless, left_7, rfl, i_8, v_9, nx, g1, rfl⟩
    try dsimp only at hh
    (repeat (with_reducible first | refine then_n ?_ | refine then_r ?_ | refine then_e ?_ | refine block_n ?_ | refine block_r ?_ | refine exit_here ?_ | refine exit_on rfl ?_ | refine scope_n ?_ | refine scope_r ?_ | refine scope_e ?_))
    first | (refine cut_less hless ?_; try refine cut_awp ?_) | refine frag_less hless ?_ | refine body_less hless ?_
    refine awp_seq ?_
    refine awp_first fun K kk hK => ?_
    simp only [go_sem]
    refine hK _ _ fun nx => ?_; clear hK K; try clear kk
    obtain ⟨e1, f1, hh⟩ := bind_ex hh
    obtain ⟨hlen1, f1⟩ := chk_some f1
    refine awp_fragE (CutTo (fun s => ∃ left_15, left_15 = e1 ∧ ∃ (i_16 : Int) (v_17 : Bool) (nx : Nat) (g1 : Nat), s = ⟨[(1, .box 1 g1 0), (3, .int .i64 left_15), (5, .int .i64 i_16), (42, .bool v_17)], [(1, g1, .var 27 [.str n_1.Kind, .str n_1.Text, .list 1 (n_1.Marks.map PV.str), .list 2 (n_1.Attrs.map api_Attr.pv), .list 5 (n_1.Kids.map api_Node.pv)])], nx⟩))
      (fun i s => False)
      (fun s => False) ?_ ?_ ?_ ?_
    · refine awp_block ?_
      refine awp_loopJ fun I hI => ?_
      have key : ∀ (suf pre : List api_Attr) (i_12 : Int) (left_11 : Int), n_1.Attrs = pre ++ suf → i_12 = (pre.length : Int) → diptychlaw3_short_l1 suf i_12 left_11 = some e1 → ∀ (nx : Nat) (g1 : Nat), I ⟨[(1, .box 1 g1 0), (3, .int .i64 left_11), (5, .int .i64 i_12)], [(1, g1, .var 27 [.str n_1.Kind, .str n_1.Text, .list 1 (n_1.Marks.map PV.str), .list 2 (n_1.Attrs.map api_Attr.pv), .list 5 (n_1.Kids.map api_Node.pv)])], nx⟩ := by
        intro suf
        induction suf with
        | nil =>
          intro pre i_12 left_11 hsplit hidx hh nx g1
          rw [diptychlaw3_short_l1] at hh
          refine hI _ ?_
          have h15 := walk_nil hsplit hidx
          refine awp_seq ?_
          refine awp_first fun K kk hK => ?_
          simp only [go_sem, h15, of_decide_eq_false h15, h15, of_decide_eq_false h15]
          (repeat (refine And.intro ?_ ?_; focus (first | assumption | (try simp only [List.length_append, List.length_cons, List.length_nil] at *; omega))))
          refine hK _ _ fun nx => ?_; clear hK K; try clear kk
          refine awp_false rfl ?_
          refine awp_exit ?_; (repeat (with_reducible first | refine then_n ?_ | refine then_r ?_ | refine then_e ?_ | refine block_n ?_ | refine block_r ?_ | refine exit_here ?_ | refine exit_on rfl ?_ | refine scope_n ?_ | refine scope_r ?_ | refine scope_e ?_ | refine cut_awp ?_))
          refine fragN ?_
          refine cut_id ?_
          refine ⟨_, (Option.some.inj hh), ?_⟩
          first | exact ⟨_, _, _, _, rfl⟩ | (simp only [diptychlaw3_Cell.pv_eq, api_Attr.pv_eq, api_Node.pv_eq, token_Token.pv_eq, diptychref3_Token.pv_eq, pvL, List.map_cons, List.map_nil, List.map_append, rune1]; exact ⟨_, _, _, _, rfl⟩)
        | cons y_14 suf ih =>
          intro pre i_12 left_11 hsplit hidx hh nx g1
          rw [diptychlaw3_short_l1] at hh
          refine hI _ ?_
          obtain ⟨hl1a, hl1b, hl1d, hl1w, h15⟩ := walk_cons (f := api_Attr.pv) hsplit hidx hlen1
          refine awp_seq ?_
          refine awp_first fun K kk hK => ?_
          simp only [go_sem, h15, of_decide_eq_true h15, h15, of_decide_eq_true h15, hl1a, hl1b, hl1d, hl1w]
          (repeat (refine And.intro ?_ ?_; focus (first | assumption | (try simp only [List.length_append, List.length_cons, List.length_nil] at *; omega))))
          refine hK _ _ fun nx => ?_; clear hK K; try clear kk
          by_cases h16 : (decide (left_11 > (0 : Int))) = true
          · rw [if_pos h16] at hh
            refine awp_true (by first | exact congrArg PV.bool h16 | rfl) ?_
            refine awp_skip ?_; (repeat (with_reducible first | refine then_n ?_ | refine then_r ?_ | refine then_e ?_ | refine block_n ?_ | refine block_r ?_ | refine exit_here ?_ | refine exit_on rfl ?_ | refine scope_n ?_ | refine scope_r ?_ | refine scope_e ?_ | refine cut_awp ?_))
            refine awp_seq ?_
            refine awp_block ?_
            refine awp_region fun K kk hK => ?_
            simp only [go_sem, hl1a, hl1b, hl1d, hl1w]
            refine hK _ _ fun nx => ?_; clear hK K; try clear kk
            (repeat (with_reducible first | refine then_n ?_ | refine then_r ?_ | refine then_e ?_ | refine block_n ?_ | refine block_r ?_ | refine exit_here ?_ | refine exit_on rfl ?_ | refine scope_n ?_ | refine scope_r ?_ | refine scope_e ?_ | refine cut_awp ?_))
            refine awp_region fun K kk hK => ?_
            simp only [go_sem, hl1a, hl1b, hl1d, hl1w]
            refine hK _ _ fun nx => ?_; clear hK K; try clear kk
            (repeat (with_reducible first | refine then_n ?_ | refine then_r ?_ | refine then_e ?_ | refine block_n ?_ | refine block_r ?_ | refine exit_here ?_ | refine exit_on rfl ?_ | refine scope_n ?_ | refine scope_r ?_ | refine scope_e ?_ | refine cut_awp ?_))
            have ih' := ih (pre ++ [y_14]) (i_12 + 1) _ (by rw [hsplit]; simp) (by simp [hidx]) hh nx
            refine cut_id ?_
            first | exact ih' _ | (simp only [diptychlaw3_Cell.pv_eq, api_Attr.pv_eq, api_Node.pv_eq, token_Token.pv_eq, diptychref3_Token.pv_eq, pvL, List.map_cons, List.map_nil, List.map_append, rune1] at ih' ⊢; exact ih' _)
          · rw [if_neg h16] at hh
            replace h16 := Bool.eq_false_iff.mpr h16
            refine awp_false (by first | exact congrArg PV.bool h16 | rfl) ?_
            refine awp_exit ?_; (repeat (with_reducible first | refine then_n ?_ | refine then_r ?_ | refine then_e ?_ | refine block_n ?_ | refine block_r ?_ | refine exit_here ?_ | refine exit_on rfl ?_ | refine scope_n ?_ | refine scope_r ?_ | refine scope_e ?_ | refine cut_awp ?_))
            refine fragN ?_
            refine cut_id ?_
            refine ⟨_, (Option.some.inj hh), ?_⟩
            first | exact ⟨_, _, _, _, rfl⟩ | (simp only [diptychlaw3_Cell.pv_eq, api_Attr.pv_eq, api_Node.pv_eq, token_Token.pv_eq, diptychref3_Token.pv_eq, pvL, List.map_cons, List.map_nil, List.map_append, rune1]; exact ⟨_, _, _, _, rfl⟩)
      exact key n_1.Attrs [] _ _ rfl rfl f1 _ _
    · rintro s ⟨t, hless, left_15, rfl, i_16, v_17, nx, g1, rfl⟩
      try dsimp only at hh
      (repeat (with_reducible first | refine then_n ?_ | refine then_r ?_ | refine then_e ?_ | refine block_n ?_ | refine block_r ?_ | refine exit_here ?_ | refine exit_on rfl ?_ | refine scope_n ?_ | refine scope_r ?_ | refine scope_e ?_))
      first | (refine cut_less hless ?_; try refine cut_awp ?_) | refine frag_less hless ?_ | refine body_less hless ?_
      refine awp_first fun K kk hK => ?_
      simp only [go_sem]
      refine hK _ _ fun nx => ?_; clear hK K; try clear kk
      refine awp_ret ?_; (repeat (with_reducible first | refine then_n ?_ | refine then_r ?_ | refine then_e ?_ | refine block_n ?_ | refine block_r ?_ | refine exit_here ?_ | refine exit_on rfl ?_ | refine scope_n ?_ | refine scope_r ?_ | refine scope_e ?_ | refine cut_awp ?_))
      obtain hR := Option.some.inj hh
      subst hR
      refine ret_pure2 ?_ (by rfl)
      simp only [go_sem, rvsRes, rvRes, cellRes, tupOf, pur2, List.map_cons, List.map_append, List.head?_cons]
      (repeat (first | exact Wk.refl _ | exact WkL.refl _ | exact Wk.nil _ | refine Wk.agg _ _ ?_ | refine Wk.tup _ _ ?_ | refine WkL.cons _ _ _ _ ?_ ?_ | exact WkL.nil))
    · intro i s h; exact h.elim
    · intro s h; exact h.elim
  · intro i s h; exact h.elim
  · intro s h; exact h.elim
theorem diptychlaw3_pick_ok (c_1 : Int) (n_2 : Int) (R : Int) (hh : diptychlaw3_pick c_1 n_2 = some R) : PC Tryd.prog 54 [.int .i64 c_1, .int .i64 n_2] (.int .i64 R) := by
  rw [diptychlaw3_pick] at hh
  refine start_diptychlaw3_pick rfl ?_
  refine awp_first fun K kk hK => ?_
  simp only [go_sem]
  refine hK _ _ fun nx => ?_; clear hK K; try clear kk
  refine awp_seq ?_
  refine awp_first fun K kk hK => ?_
  simp only [go_sem]
  refine hK _ _ fun nx => ?_; clear hK K; try clear kk
  by_cases h1 : (decide (c_1 < (0 : Int))) = true
  · rw [if_pos h1] at hh
    refine awp_true (by first | exact congrArg PV.bool h1 | rfl) ?_
    refine awp_region fun K kk hK => ?_
    simp only [go_sem]
    refine hK _ _ fun nx => ?_; clear hK K; try clear kk
    (repeat (with_reducible first | refine then_n ?_ | refine then_r ?_ | refine then_e ?_ | refine block_n ?_ | refine block_r ?_ | refine exit_here ?_ | refine exit_on rfl ?_ | refine scope_n ?_ | refine scope_r ?_ | refine scope_e ?_ | refine cut_awp ?_))
    obtain ⟨h2, hh⟩ := chk_some hh
    refine awp_first fun K kk hK => ?_
    simp only [go_sem, h2]
    (repeat (refine And.intro ?_ ?_; focus (first | assumption | (try simp only [List.length_append, List.length_cons, List.length_nil] at *; omega))))
    refine hK _ _ fun nx => ?_; clear hK K; try clear kk
    refine awp_ret ?_; (repeat (with_reducible first | refine then_n ?_ | refine then_r ?_ | refine then_e ?_ | refine block_n ?_ | refine block_r ?_ | refine exit_here ?_ | refine exit_on rfl ?_ | refine scope_n ?_ | refine scope_r ?_ | refine scope_e ?_ | refine cut_awp ?_))
    obtain hR := Option.some.inj hh
    subst hR
    refine ret_pure2 ?_ (by rfl)
    simp only [go_sem, rvsRes, rvRes, cellRes, tupOf, pur2, List.map_cons, List.map_append, List.head?_cons]
    (repeat (first | exact Wk.refl _ | exact WkL.refl _ | exact Wk.nil _ | refine Wk.agg _ _ ?_ | refine Wk.tup _ _ ?_ | refine WkL.cons _ _ _ _ ?_ ?_ | exact WkL.nil))
  · rw [if_neg h1] at hh
    replace h1 := Bool.eq_false_iff.mpr h1
    refine awp_false (by first | exact congrArg PV.bool h1 | rfl) ?_
    refine awp_skip ?_; (repeat (with_reducible first | refine then_n ?_ | refine then_r ?_ | refine then_e ?_ | refine block_n ?_ | refine block_r ?_ | refine exit_here ?_ | refine exit_on rfl ?_ | refine scope_n ?_ | refine scope_r ?_ | refine scope_e ?_ | refine cut_awp ?_))
    obtain ⟨h3, hh⟩ := chk_some hh
    refine awp_first fun K kk hK => ?_
    simp only [go_sem, h3]
    (repeat (refine And.intro ?_ ?_; focus (first | assumption | (try simp only [List.length_append, List.length_cons, List.length_nil] at *; omega))))
    refine hK _ _ fun nx => ?_; clear hK K; try clear kk
    refine awp_ret ?_; (repeat (with_reducible first | refine then_n ?_ | refine then_r ?_ | refine then_e ?_ | refine block_n ?_ | refine block_r ?_ | refine exit_here ?_ | refine exit_on rfl ?_ | refine scope_n ?_ | refine scope_r ?_ | refine scope_e ?_ | refine cut_awp ?_))
    obtain hR := Option.some.inj hh
    subst hR
    refine ret_pure2 ?_ (by rfl)
    simp only [go_sem, rvsRes, rvRes, cellRes, tupOf, pur2, List.map_cons, List.map_append, List.head?_cons]
    (repeat (first | exact Wk.refl _ | exact WkL.refl _ | exact Wk.nil _ | refine Wk.agg _ _ ?_ | refine Wk.tup _ _ ?_ | refine WkL.cons _ _ _ _ ?_ ?_ | exact WkL.nil))
theorem diptychref1_sameNames_ok (a_1 : (List Str)) (b_2 : (List Str)) (R : Bool) (hh : diptychref1_sameNames a_1 b_2 = some R) : PC Tryd.prog 84 [.list 1 (a_1.map PV.str), .list 1 (b_2.map PV.str)] (.bool R) := by
  rw [diptychref1_sameNames] at hh
  refine start_diptychref1_sameNames rfl ?_
  refine awp_first fun K kk hK => ?_
  simp only [go_sem]
  refine hK _ _ fun nx => ?_; clear hK K; try clear kk
  refine awp_seq ?_
  refine awp_first fun K kk hK => ?_
  simp only [go_sem]
  refine hK _ _ fun nx => ?_; clear hK K; try clear kk
  by_cases h1 : ((a_1.length : Int) != (b_2.length : Int)) = true
  · rw [if_pos h1] at hh
    refine awp_true (by first | exact congrArg PV.bool h1 | rfl) ?_
    refine awp_first fun K kk hK => ?_
    simp only [go_sem]
    refine hK _ _ fun nx => ?_; clear hK K; try clear kk
    refine awp_ret ?_; (repeat (with_reducible first | refine then_n ?_ | refine then_r ?_ | refine then_e ?_ | refine block_n ?_ | refine block_r ?_ | refine exit_here ?_ | refine exit_on rfl ?_ | refine scope_n ?_ | refine scope_r ?_ | refine scope_e ?_ | refine cut_awp ?_))
    obtain hR := Option.some.inj hh
    subst hR
    refine ret_pure2 ?_ (by rfl)
    simp only [go_sem, rvsRes, rvRes, cellRes, tupOf, pur2, List.map_cons, List.map_append, List.head?_cons]
    (repeat (first | exact Wk.refl _ | exact WkL.refl _ | exact Wk.nil _ | refine Wk.agg _ _ ?_ | refine Wk.tup _ _ ?_ | refine WkL.cons _ _ _ _ ?_ ?_ | exact WkL.nil))
  · rw [if_neg h1] at hh
    replace h1 := Bool.eq_false_iff.mpr h1
    refine awp_false (by first | exact congrArg PV.bool h1 | rfl) ?_
    refine awp_skip ?_; (repeat (with_reducible first | refine then_n ?_ | refine then_r ?_ | refine then_e ?_ | refine block_n ?_ | refine block_r ?_ | refine exit_here ?_ | refine exit_on rfl ?_ | refine scope_n ?_ | refine scope_r ?_ | refine scope_e ?_ | refine cut_awp ?_))
    refine awp_seq ?_
    refine awp_first fun K kk hK => ?_
    simp only [go_sem]
    refine hK _ _ fun nx => ?_; clear hK K; try clear kk
    obtain ⟨e0, f0, hh⟩ := bind_ex hh
    obtain ⟨hlen0, f0⟩ := chk_some f0
    refine awp_fragE (CutTo (fun s => .inr () = e0 ∧ ∃ (i_11 : Int) (v_12 : Bool) (nx : Nat), s = ⟨[(0, .list 1 (a_1.map PV.str)), (1, .list 1 (b_2.map PV.str)), (5, .int .i64 i_11), (14, .bool v_12)], [], nx⟩))
      (fun i s => False)
      (fun s => ∃ res_10, .inl res_10 = e0 ∧ bodyR Tryd.prog [.tmp 4] (.bool res_10) [] .ret s) ?_ ?_ ?_ ?_
    · refine awp_block ?_
      refine awp_loopJ fun I hI => ?_
      have key : ∀ (suf pre : List Str) (i_5 : Int), a_1 = pre ++ suf → i_5 = (pre.length : Int) → diptychref1_sameNames_l0 b_2 suf i_5 = some e0 → ∀ (nx : Nat), I ⟨[(0, .list 1 (a_1.map PV.str)), (1, .list 1 (b_2.map PV.str)), (5, .int .i64 i_5)], [], nx⟩ := by
        intro suf
        induction suf with
        | nil =>
          intro pre i_5 hsplit hidx hh nx
          rw [diptychref1_sameNames_l0] at hh
          refine hI _ ?_
          have h10 := walk_nil hsplit hidx
          refine awp_seq ?_
          refine awp_first fun K kk hK => ?_
          simp only [go_sem]
          refine hK _ _ fun nx => ?_; clear hK K; try clear kk
          refine awp_false (by first | exact congrArg PV.bool h10 | rfl) ?_
          refine awp_exit ?_; (repeat (with_reducible first | refine then_n ?_ | refine then_r ?_ | refine then_e ?_ | refine block_n ?_ | refine block_r ?_ | refine exit_here ?_ | refine exit_on rfl ?_ | refine scope_n ?_ | refine scope_r ?_ | refine scope_e ?_ | refine cut_awp ?_))
          refine fragN ?_
          refine cut_id ?_
          refine ⟨(Option.some.inj hh), ?_⟩
          first | exact ⟨_, _, _, rfl⟩ | (simp only [diptychlaw3_Cell.pv_eq, api_Attr.pv_eq, api_Node.pv_eq, token_Token.pv_eq, diptychref3_Token.pv_eq, pvL, List.map_cons, List.map_nil, List.map_append, rune1]; exact ⟨_, _, _, rfl⟩)
        | cons y_8 suf ih =>
          intro pre i_5 hsplit hidx hh nx
          rw [diptychref1_sameNames_l0] at hh
          refine hI _ ?_
          obtain ⟨hl0a, hl0b, hl0d, hl0w, h10⟩ := walk_cons (f := PV.str) hsplit hidx hlen0
          refine awp_seq ?_
          refine awp_first fun K kk hK => ?_
          simp only [go_sem]
          refine hK _ _ fun nx => ?_; clear hK K; try clear kk
          refine awp_true (by first | exact congrArg PV.bool h10 | rfl) ?_
          refine awp_skip ?_; (repeat (with_reducible first | refine then_n ?_ | refine then_r ?_ | refine then_e ?_ | refine block_n ?_ | refine block_r ?_ | refine exit_here ?_ | refine exit_on rfl ?_ | refine scope_n ?_ | refine scope_r ?_ | refine scope_e ?_ | refine cut_awp ?_))
          refine awp_seq ?_
          refine awp_block ?_
          obtain ⟨x_9, h11, hh⟩ := bind_ex hh
          obtain ⟨h11a, h11b, h11c⟩ := rd_some h11
          have h11d := rd_get (f := PV.str) h11c
          have h11f := rd_more (f := PV.str) h11c
          try simp only [Int.toNat_natCast, Int.reduceToNat] at h11d h11f
          refine awp_first fun K kk hK => ?_
          simp only [go_sem, h11a, h11b, h11d, h11f.1, h11f.2, hl0a, hl0b, hl0d, hl0w]
          (repeat (refine And.intro ?_ ?_; focus (first | assumption | (try simp only [List.length_append, List.length_cons, List.length_nil] at *; omega))))
          refine hK _ _ fun nx => ?_; clear hK K; try clear kk
          by_cases h12 : (!(y_8 == x_9)) = true
          · rw [if_pos h12] at hh
            refine awp_true (by first | exact congrArg PV.bool h12 | rfl) ?_
            refine awp_first fun K kk hK => ?_
            simp only [go_sem, hl0a, hl0b, hl0d, hl0w]
            refine hK _ _ fun nx => ?_; clear hK K; try clear kk
            refine awp_ret ?_; (repeat (with_reducible first | refine then_n ?_ | refine then_r ?_ | refine then_e ?_ | refine block_n ?_ | refine block_r ?_ | refine exit_here ?_ | refine exit_on rfl ?_ | refine scope_n ?_ | refine scope_r ?_ | refine scope_e ?_ | refine cut_awp ?_))
            refine fragR ⟨_, (Option.some.inj hh), ?_⟩
            refine ret_pure2 ?_ (by rfl)
            simp only [go_sem, rvsRes, rvRes, cellRes, tupOf, pur2, List.map_cons, List.map_append, List.head?_cons]
            (repeat (first | exact Wk.refl _ | exact WkL.refl _ | exact Wk.nil _ | refine Wk.agg _ _ ?_ | refine Wk.tup _ _ ?_ | refine WkL.cons _ _ _ _ ?_ ?_ | exact WkL.nil))
          · rw [if_neg h12] at hh
            replace h12 := Bool.eq_false_iff.mpr h12
            refine awp_false (by first | exact congrArg PV.bool h12 | rfl) ?_
            refine awp_skip ?_; (repeat (with_reducible first | refine then_n ?_ | refine then_r ?_ | refine then_e ?_ | refine block_n ?_ | refine block_r ?_ | refine exit_here ?_ | refine exit_on rfl ?_ | refine scope_n ?_ | refine scope_r ?_ | refine scope_e ?_ | refine cut_awp ?_))
            refine awp_region fun K kk hK => ?_
            simp only [go_sem, hl0a, hl0b, hl0d, hl0w]
            refine hK _ _ fun nx => ?_; clear hK K; try clear kk
            (repeat (with_reducible first | refine then_n ?_ | refine then_r ?_ | refine then_e ?_ | refine block_n ?_ | refine block_r ?_ | refine exit_here ?_ | refine exit_on rfl ?_ | refine scope_n ?_ | refine scope_r ?_ | refine scope_e ?_ | refine cut_awp ?_))
            have ih' := ih (pre ++ [y_8]) (i_5 + 1) (by rw [hsplit]; simp) (by simp [hidx]) hh nx
            refine cut_id ?_
            first | exact ih' | (simp only [diptychlaw3_Cell.pv_eq, api_Attr.pv_eq, api_Node.pv_eq, token_Token.pv_eq, diptychref3_Token.pv_eq, pvL, List.map_cons, List.map_nil, List.map_append, rune1] at ih' ⊢; exact ih')
      exact key a_1 [] _ rfl rfl f0 _
    · rintro s ⟨t, hless, rfl, i_11, v_12, nx, rfl⟩
      try dsimp only at hh
      (repeat (with_reducible first | refine then_n ?_ | refine then_r ?_ | refine then_e ?_ | refine block_n ?_ | refine block_r ?_ | refine exit_here ?_ | refine exit_on rfl ?_ | refine scope_n ?_ | refine scope_r ?_ | refine scope_e ?_))
      first | (refine cut_less hless ?_; try refine cut_awp ?_) | refine frag_less hless ?_ | refine body_less hless ?_
      refine awp_first fun K kk hK => ?_
      simp only [go_sem]
      refine hK _ _ fun nx => ?_; clear hK K; try clear kk
      refine awp_ret ?_; (repeat (with_reducible first | refine then_n ?_ | refine then_r ?_ | refine then_e ?_ | refine block_n ?_ | refine block_r ?_ | refine exit_here ?_ | refine exit_on rfl ?_ | refine scope_n ?_ | refine scope_r ?_ | refine scope_e ?_ | refine cut_awp ?_))
      obtain hR := Option.some.inj hh
      subst hR
      refine ret_pure2 ?_ (by rfl)
      simp only [go_sem, rvsRes, rvRes, cellRes, tupOf, pur2, List.map_cons, List.map_append, List.head?_cons]
      (repeat (first | exact Wk.refl _ | exact WkL.refl _ | exact Wk.nil _ | refine Wk.agg _ _ ?_ | refine Wk.tup _ _ ?_ | refine WkL.cons _ _ _ _ ?_ ?_ | exact WkL.nil))
    · intro i s h; exact h.elim
    · rintro s ⟨res_10, rfl, hb⟩
      try dsimp only at hh
      obtain hR := Option.some.inj hh
      subst hR
      (repeat (with_reducible first | refine then_n ?_ | refine then_r ?_ | refine then_e ?_ | refine block_n ?_ | refine block_r ?_ | refine exit_here ?_ | refine exit_on rfl ?_ | refine scope_n ?_ | refine scope_r ?_ | refine scope_e ?_ | refine cut_awp ?_))
      exact hb
theorem diptychref1_Join_ok (l_1 : (List api_Node)) (R : (List api_Node)) (hh : diptychref1_Join l_1 = some R) : PC Tryd.prog 55 [.list 5 (l_1.map api_Node.pv)] (.own 5 (R.map api_Node.pv)) := by
  rw [diptychref1_Join] at hh
  refine start_diptychref1_Join rfl ?_
  refine awp_first fun K kk hK => ?_
  simp only [go_sem]
  refine hK _ _ fun nx => ?_; clear hK K; try clear kk
  refine awp_first fun K kk hK => ?_
  simp only [go_sem]
  refine hK _ _ fun nx => ?_; clear hK K; try clear kk
  refine awp_seq ?_
  refine awp_first fun K kk hK => ?_
  simp only [go_sem]
  refine hK _ _ fun nx => ?_; clear hK K; try clear kk
  obtain ⟨e0, f0, hh⟩ := bind_ex hh
  obtain ⟨hlen0, f0⟩ := chk_some f0
  refine awp_fragE (CutTo (fun s => ∃ out_39, out_39 = e0 ∧ ∃ (i_37 : Int) (v_38 : Bool) (nx : Nat) (g3 : Nat), s = ⟨[(0, .list 5 (l_1.map api_Node.pv)), (3, .row 3 g3 out_39.length), (4, .int .i64 i_37), (10, .bool v_38)], [(3, g3, .row false 5 (out_39.map api_Node.pv))], nx⟩))
    (fun i s => False)
    (fun s => False) ?_ ?_ ?_ ?_
  · refine awp_block ?_
    refine awp_loopJ fun I hI => ?_
    have key : ∀ (suf pre : List api_Node) (i_13 : Int) (out_14 : (List api_Node)), l_1 = pre ++ suf → i_13 = (pre.length : Int) → diptychref1_Join_l0 suf i_13 out_14 = some e0 → ∀ (nx : Nat) (g3 : Nat), I ⟨[(0, .list 5 (l_1.map api_Node.pv)), (3, .row 3 g3 out_14.length), (4, .int .i64 i_13)], [(3, g3, .row false 5 (out_14.map api_Node.pv))], nx⟩ := by
      intro suf
      induction suf with
      | nil =>
        intro pre i_13 out_14 hsplit hidx hh nx g3
        rw [diptychref1_Join_l0] at hh
        refine hI _ ?_
        have h37 := walk_nil hsplit hidx
        refine awp_seq ?_
        refine awp_first fun K kk hK => ?_
        simp only [go_sem]
        refine hK _ _ fun nx => ?_; clear hK K; try clear kk
        refine awp_false (by first | exact congrArg PV.bool h37 | rfl) ?_
        refine awp_exit ?_; (repeat (with_reducible first | refine then_n ?_ | refine then_r ?_ | refine then_e ?_ | refine block_n ?_ | refine block_r ?_ | refine exit_here ?_ | refine exit_on rfl ?_ | refine scope_n ?_ | refine scope_r ?_ | refine scope_e ?_ | refine cut_awp ?_))
        refine fragN ?_
        refine cut_id ?_
        refine ⟨_, (Option.some.inj hh), ?_⟩
        first | exact ⟨_, _, _, _, rfl⟩ | (simp only [diptychlaw3_Cell.pv_eq, api_Attr.pv_eq, api_Node.pv_eq, token_Token.pv_eq, diptychref3_Token.pv_eq, pvL, List.map_cons, List.map_nil, List.map_append, rune1]; exact ⟨_, _, _, _, rfl⟩)
      | cons y_26 suf ih =>
        intro pre i_13 out_14 hsplit hidx hh nx g3
        rw [diptychref1_Join_l0] at hh
        refine hI _ ?_
        obtain ⟨hl0a, hl0b, hl0d, hl0w, h37⟩ := walk_cons (f := api_Node.pv) hsplit hidx hlen0
        refine awp_seq ?_
        refine awp_first fun K kk hK => ?_
        simp only [go_sem]
        refine hK _ _ fun nx => ?_; clear hK K; try clear kk
        refine awp_true (by first | exact congrArg PV.bool h37 | rfl) ?_
        refine awp_skip ?_; (repeat (with_reducible first | refine then_n ?_ | refine then_r ?_ | refine then_e ?_ | refine block_n ?_ | refine block_r ?_ | refine exit_here ?_ | refine exit_on rfl ?_ | refine scope_n ?_ | refine scope_r ?_ | refine scope_e ?_ | refine cut_awp ?_))
        refine awp_seq ?_
        refine awp_block ?_
        refine awp_first fun K kk hK => ?_
        simp only [go_sem, hl0a, hl0b, hl0d, hl0w]
        refine hK _ _ fun nx => ?_; clear hK K; try clear kk
        refine awp_first fun K kk hK => ?_
        simp only [go_sem, hl0a, hl0b, hl0d, hl0w]
        refine hK _ _ fun nx => ?_; clear hK K; try clear kk
        refine awp_seq ?_
        obtain ⟨e3, f3, hh⟩ := bind_ex hh
        refine awp_frag (fun s => .inr () = e3 ∧ ∃ (v_27 : Bool) (nx : Nat) (g3 : Nat) (g5 : Nat), s = ⟨[(0, .list 5 (l_1.map api_Node.pv)), (3, .row 3 g3 out_14.length), (4, .int .i64 i_13), (5, .box 5 g5 0), (6, .int .i64 (w64 ((out_14.length : Int) - (1 : Int)))), (27, .bool v_27)], [(3, g3, .row false 5 (out_14.map api_Node.pv)), (5, g5, .var 27 [.str y_26.Kind, .str y_26.Text, .list 1 (y_26.Marks.map PV.str), .list 2 (y_26.Attrs.map api_Attr.pv), .list 5 (y_26.Kids.map api_Node.pv)])], nx⟩)
          (fun i s => (i = 1 ∧ .inl () = e3 ∧ ∃ (nx : Nat) (g3 : Nat) (g5 : Nat), s = ⟨[(0, .list 5 (l_1.map api_Node.pv)), (3, .row 3 g3 out_14.length), (4, .int .i64 i_13), (5, .box 5 g5 0), (6, .int .i64 (w64 ((out_14.length : Int) - (1 : Int)))), (27, .bool (y_26.Text == ([] : Str)))], [(3, g3, .row false 5 (out_14.map api_Node.pv)), (5, g5, .var 27 [.str y_26.Kind, .str y_26.Text, .list 1 (y_26.Marks.map PV.str), .list 2 (y_26.Attrs.map api_Attr.pv), .list 5 (y_26.Kids.map api_Node.pv)])], nx⟩))
          (fun s => False) ?_ ?_ ?_ ?_
        · have hh := f3
          by_cases h38 : (y_26.Kind == ([116, 101, 120, 116] : Str)) = true
          · rw [if_pos h38] at hh
            refine awp_first fun K kk hK => ?_
            simp only [go_sem, h38, h38, hl0a, hl0b, hl0d, hl0w]
            (repeat (refine And.intro ?_ ?_; focus (first | assumption | (try simp only [List.length_append, List.length_cons, List.length_nil] at *; omega))))
            refine hK _ _ fun nx => ?_; clear hK K; try clear kk
            by_cases h39 : (y_26.Text == ([] : Str)) = true
            · rw [if_pos h39] at hh
              refine awp_true (by first | exact congrArg PV.bool h39 | rfl) ?_
              refine awp_exit ?_; (repeat (with_reducible first | refine then_n ?_ | refine then_r ?_ | refine then_e ?_ | refine block_n ?_ | refine block_r ?_ | refine exit_here ?_ | refine exit_on rfl ?_ | refine scope_n ?_ | refine scope_r ?_ | refine scope_e ?_ | refine cut_awp ?_))
              refine fragE ⟨rfl, (Option.some.inj hh), ?_⟩
              first | exact ⟨_, _, _, rfl⟩ | (simp only [diptychlaw3_Cell.pv_eq, api_Attr.pv_eq, api_Node.pv_eq, token_Token.pv_eq, diptychref3_Token.pv_eq, pvL, List.map_cons, List.map_nil, List.map_append, rune1]; exact ⟨_, _, _, rfl⟩)
            · rw [if_neg h39] at hh
              replace h39 := Bool.eq_false_iff.mpr h39
              refine awp_false (by first | exact congrArg PV.bool h39 | rfl) ?_
              refine awp_skip ?_; (repeat (with_reducible first | refine then_n ?_ | refine then_r ?_ | refine then_e ?_ | refine block_n ?_ | refine block_r ?_ | refine exit_here ?_ | refine exit_on rfl ?_ | refine scope_n ?_ | refine scope_r ?_ | refine scope_e ?_ | refine cut_awp ?_))
              refine fragN ?_
              refine cut_id ?_
              refine ⟨(Option.some.inj hh), ?_⟩
              first | exact ⟨_, _, _, _, rfl⟩ | (simp only [diptychlaw3_Cell.pv_eq, api_Attr.pv_eq, api_Node.pv_eq, token_Token.pv_eq, diptychref3_Token.pv_eq, pvL, List.map_cons, List.map_nil, List.map_append, rune1]; exact ⟨_, _, _, _, rfl⟩)
          · rw [if_neg h38] at hh
            replace h38 := Bool.eq_false_iff.mpr h38
            refine awp_first fun K kk hK => ?_
            simp only [go_sem, h38, h38, hl0a, hl0b, hl0d, hl0w]
            (repeat (refine And.intro ?_ ?_; focus (first | assumption | (try simp only [List.length_append, List.length_cons, List.length_nil] at *; omega))))
            refine hK _ _ fun nx => ?_; clear hK K; try clear kk
            refine awp_false rfl ?_
            refine awp_skip ?_; (repeat (with_reducible first | refine then_n ?_ | refine then_r ?_ | refine then_e ?_ | refine block_n ?_ | refine block_r ?_ | refine exit_here ?_ | refine exit_on rfl ?_ | refine scope_n ?_ | refine scope_r ?_ | refine scope_e ?_ | refine cut_awp ?_))
            refine fragN ?_
            refine cut_id ?_
            refine ⟨(Option.some.inj hh), ?_⟩
            first | exact ⟨_, _, _, _, rfl⟩ | (simp only [diptychlaw3_Cell.pv_eq, api_Attr.pv_eq, api_Node.pv_eq, token_Token.pv_eq, diptychref3_Token.pv_eq, pvL, List.map_cons, List.map_nil, List.map_append, rune1]; exact ⟨_, _, _, _, rfl⟩)
        · rintro s ⟨rfl, v_27, nx, g3, g5, rfl⟩
          try dsimp only at hh
          refine awp_seq ?_
          by_cases h40 : (y_26.Kind == ([116, 101, 120, 116] : Str)) = true
          · rw [if_pos h40] at hh
            by_cases h41 : (decide ((w64 ((out_14.length : Int) - (1 : Int))) ≥ (0 : Int))) = true
            · rw [if_pos h41] at hh
              obtain ⟨x_28, h42, hh⟩ := bind_ex hh
              obtain ⟨h42a, h42b, h42c⟩ := rd_some h42
              have h42d := rd_get (f := api_Node.pv) h42c
              have h42f := rd_more (f := api_Node.pv) h42c
              try simp only [Int.toNat_natCast, Int.reduceToNat] at h42d h42f
              by_cases h43 : (x_28.Kind == ([116, 101, 120, 116] : Str)) = true
              · rw [if_pos h43] at hh
                obtain ⟨samena_29, h44, hh⟩ := bind_ex hh
                refine awp_first fun K kk hK => ?_
                simp only [go_sem, h40, h40, h41, of_decide_eq_true h41, h42a, h42b, h42d, h42f.1, h42f.2, h41, of_decide_eq_true h41, h43, h42a, h42b, h42d, h42f.1, h42f.2, h43, hl0a, hl0b, hl0d, hl0w]
                (repeat (refine And.intro ?_ ?_; focus (first | assumption | (try simp only [List.length_append, List.length_cons, List.length_nil] at *; omega))))
                refine step_call2 (diptychref1_sameNames_ok _ _ _ h44) (by try simp only [go_sem, h40, h40, h41, of_decide_eq_true h41, h42a, h42b, h42d, h42f.1, h42f.2, h41, of_decide_eq_true h41, h43, h42a, h42b, h42d, h42f.1, h42f.2, h43, hl0a, hl0b, hl0d, hl0w]; (repeat (first | exact WkL.refl _ | exact Wk.refl _ | exact Wk.nil _ | refine WkL.cons _ _ _ _ ?_ ?_ | exact WkL.nil | refine Wk.agg _ _ ?_ | refine Wk.tup _ _ ?_))) (by rfl) (by rfl) ?_
                simp only [go_sem, h40, h40, h41, of_decide_eq_true h41, h42a, h42b, h42d, h42f.1, h42f.2, h41, of_decide_eq_true h41, h43, h42a, h42b, h42d, h42f.1, h42f.2, h43, hl0a, hl0b, hl0d, hl0w]
                (repeat (refine And.intro ?_ ?_; focus (first | assumption | (try simp only [List.length_append, List.length_cons, List.length_nil] at *; omega))))
                refine hK _ _ fun nx => ?_; clear hK K; try clear kk
                by_cases h45 : (samena_29) = true
                · rw [if_pos h45] at hh
                  refine awp_true (by first | exact congrArg PV.bool h45 | rfl) ?_
                  obtain ⟨h46, hh⟩ := chk_some hh
                  refine awp_first fun K kk hK => ?_
                  simp only [go_sem, h42a, h42b, h42d, h42f.1, h42f.2, h46, hl0a, hl0b, hl0d, hl0w]
                  (repeat (refine And.intro ?_ ?_; focus (first | assumption | (try simp only [List.length_append, List.length_cons, List.length_nil] at *; omega))))
                  refine hK _ _ fun nx => ?_; clear hK K; try clear kk
                  obtain ⟨s_30, h47, hh⟩ := bind_ex hh
                  obtain ⟨h47a, h47c⟩ := sl_some h47
                  have h47g := sl_le h47a
                  have h47d := sl_map0 (f := api_Node.pv) h47c
                  try simp only [Int.toNat_natCast, Int.reduceToNat, List.map_cons, List.map_nil, diptychlaw3_Cell.pv_eq, api_Attr.pv_eq, api_Node.pv_eq, token_Token.pv_eq, diptychref3_Token.pv_eq, pvL] at h47d
                  obtain ⟨l_31, h48, hh⟩ := bind_ex hh
                  obtain ⟨h48a, h48c⟩ := app_some h48
                  have h48d := app_map (f := api_Node.pv) h48c
                  have h48e := app_len h48c
                  try simp only [List.length_cons, List.length_nil, Nat.zero_add, Nat.reduceAdd] at h48a h48e
                  try simp only [h48e] at h48a
                  try simp only [List.map_cons, List.map_nil, List.nil_append, List.append_nil, List.cons_append, List.singleton_append, rune1, diptychlaw3_Cell.pv_eq, api_Attr.pv_eq, api_Node.pv_eq, token_Token.pv_eq, diptychref3_Token.pv_eq, pvL] at h48d
                  obtain ⟨l_32, h49, hh⟩ := bind_ex hh
                  obtain ⟨h49a, h49c⟩ := app_some h49
                  have h49d := app_map (f := api_Node.pv) h49c
                  have h49e := app_len h49c
                  try simp only [List.length_cons, List.length_nil, Nat.zero_add, Nat.reduceAdd] at h49a h49e
                  try simp only [h49e] at h49a
                  try simp only [List.map_cons, List.map_nil, List.nil_append, List.append_nil, List.cons_append, List.singleton_append, rune1, diptychlaw3_Cell.pv_eq, api_Attr.pv_eq, api_Node.pv_eq, token_Token.pv_eq, diptychref3_Token.pv_eq, pvL] at h49d
                  refine awp_first fun K kk hK => ?_
                  simp only [go_sem, h47a.1, h47a.2.1, h47a.2.2, h47d, h47g, h48a, h48d, h48e, h49a, h49d, h49e, hl0a, hl0b, hl0d, hl0w]
                  (repeat (refine And.intro ?_ ?_; focus (first | assumption | (try simp only [List.length_append, List.length_cons, List.length_nil] at *; omega))))
                  refine hK _ _ fun nx => ?_; clear hK K; try clear kk
                  refine awp_exit ?_; (repeat (with_reducible first | refine then_n ?_ | refine then_r ?_ | refine then_e ?_ | refine block_n ?_ | refine block_r ?_ | refine exit_here ?_ | refine exit_on rfl ?_ | refine scope_n ?_ | refine scope_r ?_ | refine scope_e ?_ | refine cut_awp ?_))
                  refine awp_region fun K kk hK => ?_
                  simp only [go_sem, hl0a, hl0b, hl0d, hl0w]
                  refine hK _ _ fun nx => ?_; clear hK K; try clear kk
                  (repeat (with_reducible first | refine then_n ?_ | refine then_r ?_ | refine then_e ?_ | refine block_n ?_ | refine block_r ?_ | refine exit_here ?_ | refine exit_on rfl ?_ | refine scope_n ?_ | refine scope_r ?_ | refine scope_e ?_ | refine cut_awp ?_))
                  have ih' := ih (pre ++ [y_26]) (i_13 + 1) _ (by rw [hsplit]; simp) (by simp [hidx]) hh nx
                  refine cut_id ?_
                  first | exact ih' _ | (simp only [diptychlaw3_Cell.pv_eq, api_Attr.pv_eq, api_Node.pv_eq, token_Token.pv_eq, diptychref3_Token.pv_eq, pvL, List.map_cons, List.map_nil, List.map_append, rune1, h48e, h48d, h49e] at ih' ⊢; exact ih' _)
                · rw [if_neg h45] at hh
                  replace h45 := Bool.eq_false_iff.mpr h45
                  refine awp_false (by first | exact congrArg PV.bool h45 | rfl) ?_
                  refine awp_skip ?_; (repeat (with_reducible first | refine then_n ?_ | refine then_r ?_ | refine then_e ?_ | refine block_n ?_ | refine block_r ?_ | refine exit_here ?_ | refine exit_on rfl ?_ | refine scope_n ?_ | refine scope_r ?_ | refine scope_e ?_ | refine cut_awp ?_))
                  obtain ⟨l_33, h50, hh⟩ := bind_ex hh
                  obtain ⟨h50a, h50c⟩ := app_some h50
                  have h50d := app_map (f := api_Node.pv) h50c
                  have h50e := app_len h50c
                  try simp only [List.length_cons, List.length_nil, Nat.zero_add, Nat.reduceAdd] at h50a h50e
                  try simp only [h50e] at h50a
                  try simp only [List.map_cons, List.map_nil, List.nil_append, List.append_nil, List.cons_append, List.singleton_append, rune1, diptychlaw3_Cell.pv_eq, api_Attr.pv_eq, api_Node.pv_eq, token_Token.pv_eq, diptychref3_Token.pv_eq, pvL] at h50d
                  refine awp_region fun K kk hK => ?_
                  simp only [go_sem, h50a, h50d, h50e, hl0a, hl0b, hl0d, hl0w]
                  (repeat (refine And.intro ?_ ?_; focus (first | assumption | (try simp only [List.length_append, List.length_cons, List.length_nil] at *; omega))))
                  refine hK _ _ fun nx => ?_; clear hK K; try clear kk
                  (repeat (with_reducible first | refine then_n ?_ | refine then_r ?_ | refine then_e ?_ | refine block_n ?_ | refine block_r ?_ | refine exit_here ?_ | refine exit_on rfl ?_ | refine scope_n ?_ | refine scope_r ?_ | refine scope_e ?_ | refine cut_awp ?_))
                  refine awp_region fun K kk hK => ?_
                  simp only [go_sem, hl0a, hl0b, hl0d, hl0w]
                  refine hK _ _ fun nx => ?_; clear hK K; try clear kk
                  (repeat (with_reducible first | refine then_n ?_ | refine then_r ?_ | refine then_e ?_ | refine block_n ?_ | refine block_r ?_ | refine exit_here ?_ | refine exit_on rfl ?_ | refine scope_n ?_ | refine scope_r ?_ | refine scope_e ?_ | refine cut_awp ?_))
                  have ih' := ih (pre ++ [y_26]) (i_13 + 1) _ (by rw [hsplit]; simp) (by simp [hidx]) hh nx
                  refine cut_id ?_
                  first | exact ih' _ | (simp only [diptychlaw3_Cell.pv_eq, api_Attr.pv_eq, api_Node.pv_eq, token_Token.pv_eq, diptychref3_Token.pv_eq, pvL, List.map_cons, List.map_nil, List.map_append, rune1, h50e] at ih' ⊢; exact ih' _)
              · rw [if_neg h43] at hh
                replace h43 := Bool.eq_false_iff.mpr h43
                refine awp_first fun K kk hK => ?_
                simp only [go_sem, h40, h40, h41, of_decide_eq_true h41, h42a, h42b, h42d, h42f.1, h42f.2, h41, of_decide_eq_true h41, h43, h43, hl0a, hl0b, hl0d, hl0w]
                (repeat (refine And.intro ?_ ?_; focus (first | assumption | (try simp only [List.length_append, List.length_cons, List.length_nil] at *; omega))))
                refine hK _ _ fun nx => ?_; clear hK K; try clear kk
                refine awp_false rfl ?_
                refine awp_skip ?_; (repeat (with_reducible first | refine then_n ?_ | refine then_r ?_ | refine then_e ?_ | refine block_n ?_ | refine block_r ?_ | refine exit_here ?_ | refine exit_on rfl ?_ | refine scope_n ?_ | refine scope_r ?_ | refine scope_e ?_ | refine cut_awp ?_))
                obtain ⟨l_34, h51, hh⟩ := bind_ex hh
                obtain ⟨h51a, h51c⟩ := app_some h51
                have h51d := app_map (f := api_Node.pv) h51c
                have h51e := app_len h51c
                try simp only [List.length_cons, List.length_nil, Nat.zero_add, Nat.reduceAdd] at h51a h51e
                try simp only [h51e] at h51a
                try simp only [List.map_cons, List.map_nil, List.nil_append, List.append_nil, List.cons_append, List.singleton_append, rune1, diptychlaw3_Cell.pv_eq, api_Attr.pv_eq, api_Node.pv_eq, token_Token.pv_eq, diptychref3_Token.pv_eq, pvL] at h51d
                refine awp_region fun K kk hK => ?_
                simp only [go_sem, h51a, h51d, h51e, hl0a, hl0b, hl0d, hl0w]
                (repeat (refine And.intro ?_ ?_; focus (first | assumption | (try simp only [List.length_append, List.length_cons, List.length_nil] at *; omega))))
                refine hK _ _ fun nx => ?_; clear hK K; try clear kk
                (repeat (with_reducible first | refine then_n ?_ | refine then_r ?_ | refine then_e ?_ | refine block_n ?_ | refine block_r ?_ | refine exit_here ?_ | refine exit_on rfl ?_ | refine scope_n ?_ | refine scope_r ?_ | refine scope_e ?_ | refine cut_awp ?_))
                refine awp_region fun K kk hK => ?_
                simp only [go_sem, hl0a, hl0b, hl0d, hl0w]
                refine hK _ _ fun nx => ?_; clear hK K; try clear kk
                (repeat (with_reducible first | refine then_n ?_ | refine then_r ?_ | refine then_e ?_ | refine block_n ?_ | refine block_r ?_ | refine exit_here ?_ | refine exit_on rfl ?_ | refine scope_n ?_ | refine scope_r ?_ | refine scope_e ?_ | refine cut_awp ?_))
                have ih' := ih (pre ++ [y_26]) (i_13 + 1) _ (by rw [hsplit]; simp) (by simp [hidx]) hh nx
                refine cut_id ?_
                first | exact ih' _ | (simp only [diptychlaw3_Cell.pv_eq, api_Attr.pv_eq, api_Node.pv_eq, token_Token.pv_eq, diptychref3_Token.pv_eq, pvL, List.map_cons, List.map_nil, List.map_append, rune1, h51e] at ih' ⊢; exact ih' _)
            · rw [if_neg h41] at hh
              replace h41 := Bool.eq_false_iff.mpr h41
              refine awp_first fun K kk hK => ?_
              simp only [go_sem, h40, h40, h41, of_decide_eq_false h41, h41, of_decide_eq_false h41, hl0a, hl0b, hl0d, hl0w]
              (repeat (refine And.intro ?_ ?_; focus (first | assumption | (try simp only [List.length_append, List.length_cons, List.length_nil] at *; omega))))
              refine hK _ _ fun nx => ?_; clear hK K; try clear kk
              refine awp_false rfl ?_
              refine awp_skip ?_; (repeat (with_reducible first | refine then_n ?_ | refine then_r ?_ | refine then_e ?_ | refine block_n ?_ | refine block_r ?_ | refine exit_here ?_ | refine exit_on rfl ?_ | refine scope_n ?_ | refine scope_r ?_ | refine scope_e ?_ | refine cut_awp ?_))
              obtain ⟨l_35, h52, hh⟩ := bind_ex hh
              obtain ⟨h52a, h52c⟩ := app_some h52
              have h52d := app_map (f := api_Node.pv) h52c
              have h52e := app_len h52c
              try simp only [List.length_cons, List.length_nil, Nat.zero_add, Nat.reduceAdd] at h52a h52e
              try simp only [h52e] at h52a
              try simp only [List.map_cons, List.map_nil, List.nil_append, List.append_nil, List.cons_append, List.singleton_append, rune1, diptychlaw3_Cell.pv_eq, api_Attr.pv_eq, api_Node.pv_eq, token_Token.pv_eq, diptychref3_Token.pv_eq, pvL] at h52d
              refine awp_region fun K kk hK => ?_
              simp only [go_sem, h52a, h52d, h52e, hl0a, hl0b, hl0d, hl0w]
              (repeat (refine And.intro ?_ ?_; focus (first | assumption | (try simp only [List.length_append, List.length_cons, List.length_nil] at *; omega))))
              refine hK _ _ fun nx => ?_; clear hK K; try clear kk
              (repeat (with_reducible first | refine then_n ?_ | refine then_r ?_ | refine then_e ?_ | refine block_n ?_ | refine block_r ?_ | refine exit_here ?_ | refine exit_on rfl ?_ | refine scope_n ?_ | refine scope_r ?_ | refine scope_e ?_ | refine cut_awp ?_))
              refine awp_region fun K kk hK => ?_
              simp only [go_sem, hl0a, hl0b, hl0d, hl0w]
              refine hK _ _ fun nx => ?_; clear hK K; try clear kk
              (repeat (with_reducible first | refine then_n ?_ | refine then_r ?_ | refine then_e ?_ | refine block_n ?_ | refine block_r ?_ | refine exit_here ?_ | refine exit_on rfl ?_ | refine scope_n ?_ | refine scope_r ?_ | refine scope_e ?_ | refine cut_awp ?_))
              have ih' := ih (pre ++ [y_26]) (i_13 + 1) _ (by rw [hsplit]; simp) (by simp [hidx]) hh nx
              refine cut_id ?_
              first | exact ih' _ | (simp only [diptychlaw3_Cell.pv_eq, api_Attr.pv_eq, api_Node.pv_eq, token_Token.pv_eq, diptychref3_Token.pv_eq, pvL, List.map_cons, List.map_nil, List.map_append, rune1, h52e] at ih' ⊢; exact ih' _)
          · rw [if_neg h40] at hh
            replace h40 := Bool.eq_false_iff.mpr h40
            refine awp_first fun K kk hK => ?_
            simp only [go_sem, h40, h40, hl0a, hl0b, hl0d, hl0w]
            (repeat (refine And.intro ?_ ?_; focus (first | assumption | (try simp only [List.length_append, List.length_cons, List.length_nil] at *; omega))))
            refine hK _ _ fun nx => ?_; clear hK K; try clear kk
            refine awp_false rfl ?_
            refine awp_skip ?_; (repeat (with_reducible first | refine then_n ?_ | refine then_r ?_ | refine then_e ?_ | refine block_n ?_ | refine block_r ?_ | refine exit_here ?_ | refine exit_on rfl ?_ | refine scope_n ?_ | refine scope_r ?_ | refine scope_e ?_ | refine cut_awp ?_))
            obtain ⟨l_36, h53, hh⟩ := bind_ex hh
            obtain ⟨h53a, h53c⟩ := app_some h53
            have h53d := app_map (f := api_Node.pv) h53c
            have h53e := app_len h53c
            try simp only [List.length_cons, List.length_nil, Nat.zero_add, Nat.reduceAdd] at h53a h53e
            try simp only [h53e] at h53a
            try simp only [List.map_cons, List.map_nil, List.nil_append, List.append_nil, List.cons_append, List.singleton_append, rune1, diptychlaw3_Cell.pv_eq, api_Attr.pv_eq, api_Node.pv_eq, token_Token.pv_eq, diptychref3_Token.pv_eq, pvL] at h53d
            refine awp_region fun K kk hK => ?_
            simp only [go_sem, h53a, h53d, h53e, hl0a, hl0b, hl0d, hl0w]
            (repeat (refine And.intro ?_ ?_; focus (first | assumption | (try simp only [List.length_append, List.length_cons, List.length_nil] at *; omega))))
            refine hK _ _ fun nx => ?_; clear hK K; try clear kk
            (repeat (with_reducible first | refine then_n ?_ | refine then_r ?_ | refine then_e ?_ | refine block_n ?_ | refine block_r ?_ | refine exit_here ?_ | refine exit_on rfl ?_ | refine scope_n ?_ | refine scope_r ?_ | refine scope_e ?_ | refine cut_awp ?_))
            refine awp_region fun K kk hK => ?_
            simp only [go_sem, hl0a, hl0b, hl0d, hl0w]
            refine hK _ _ fun nx => ?_; clear hK K; try clear kk
            (repeat (with_reducible first | refine then_n ?_ | refine then_r ?_ | refine then_e ?_ | refine block_n ?_ | refine block_r ?_ | refine exit_here ?_ | refine exit_on rfl ?_ | refine scope_n ?_ | refine scope_r ?_ | refine scope_e ?_ | refine cut_awp ?_))
            have ih' := ih (pre ++ [y_26]) (i_13 + 1) _ (by rw [hsplit]; simp) (by simp [hidx]) hh nx
            refine cut_id ?_
            first | exact ih' _ | (simp only [diptychlaw3_Cell.pv_eq, api_Attr.pv_eq, api_Node.pv_eq, token_Token.pv_eq, diptychref3_Token.pv_eq, pvL, List.map_cons, List.map_nil, List.map_append, rune1, h53e] at ih' ⊢; exact ih' _)
        · intro i s h
          obtain ⟨rfl, rfl, nx, g3, g5, rfl⟩ := h
          try dsimp only at hh
          (repeat (with_reducible first | refine then_n ?_ | refine then_r ?_ | refine then_e ?_ | refine block_n ?_ | refine block_r ?_ | refine exit_here ?_ | refine exit_on rfl ?_ | refine scope_n ?_ | refine scope_r ?_ | refine scope_e ?_ | refine cut_awp ?_))
          refine awp_region fun K kk hK => ?_
          simp only [go_sem, hl0a, hl0b, hl0d, hl0w]
          refine hK _ _ fun nx => ?_; clear hK K; try clear kk
          (repeat (with_reducible first | refine then_n ?_ | refine then_r ?_ | refine then_e ?_ | refine block_n ?_ | refine block_r ?_ | refine exit_here ?_ | refine exit_on rfl ?_ | refine scope_n ?_ | refine scope_r ?_ | refine scope_e ?_ | refine cut_awp ?_))
          have ih' := ih (pre ++ [y_26]) (i_13 + 1) _ (by rw [hsplit]; simp) (by simp [hidx]) hh nx
          refine cut_id ?_
          first | exact ih' _ | (simp only [diptychlaw3_Cell.pv_eq, api_Attr.pv_eq, api_Node.pv_eq, token_Token.pv_eq, diptychref3_Token.pv_eq, pvL, List.map_cons, List.map_nil, List.map_append, rune1] at ih' ⊢; exact ih' _)
        · intro s h; exact h.elim
    exact key l_1 [] _ _ rfl rfl f0 _ _
  · rintro s ⟨t, hless, out_39, rfl, i_37, v_38, nx, g3, rfl⟩
    try dsimp only at hh
    (repeat (with_reducible first | refine then_n ?_ | refine then_r ?_ | refine then_e ?_ | refine block_n ?_ | refine block_r ?_ | refine exit_here ?_ | refine exit_on rfl ?_ | refine scope_n ?_ | refine scope_r ?_ | refine scope_e ?_))
    first | (refine cut_less hless ?_; try refine cut_awp ?_) | refine frag_less hless ?_ | refine body_less hless ?_
    refine awp_first fun K kk hK => ?_
    simp only [go_sem]
    refine hK _ _ fun nx => ?_; clear hK K; try clear kk
    refine awp_ret ?_; (repeat (with_reducible first | refine then_n ?_ | refine then_r ?_ | refine then_e ?_ | refine block_n ?_ | refine block_r ?_ | refine exit_here ?_ | refine exit_on rfl ?_ | refine scope_n ?_ | refine scope_r ?_ | refine scope_e ?_ | refine cut_awp ?_))
    obtain hR := Option.some.inj hh
    subst hR
    exact ret_own (by rfl) (by rfl) (by rfl) (by simp only [List.length_map, List.length_cons, List.length_nil, Nat.zero_add, Nat.reduceAdd]) (by first | rfl | (simp only [diptychlaw3_Cell.pv_eq, api_Attr.pv_eq, api_Node.pv_eq, token_Token.pv_eq, diptychref3_Token.pv_eq, pvL, List.map_cons, List.map_nil, List.map_append, rune1]; done) | (simp only [diptychlaw3_Cell.pv_eq, api_Attr.pv_eq, api_Node.pv_eq, token_Token.pv_eq, diptychref3_Token.pv_eq, pvL, List.map_cons, List.map_nil, List.map_append, rune1]; rfl))
  · intro i s h; exact h.elim
  · intro s h; exact h.elim
theorem diptychlaw3_made_ok (l_1 : (List diptychlaw3_Cell)) (R : (List api_Node)) (hh : diptychlaw3_made l_1 = some R) : PC Tryd.prog 17 [.list 3 (l_1.map diptychlaw3_Cell.pv)] (.list 5 (R.map api_Node.pv)) := by
  rw [diptychlaw3_made] at hh
  refine start_diptychlaw3_made rfl ?_
  refine awp_first fun K kk hK => ?_
  simp only [go_sem]
  refine hK _ _ fun nx => ?_; clear hK K; try clear kk
  refine awp_first fun K kk hK => ?_
  simp only [go_sem]
  refine hK _ _ fun nx => ?_; clear hK K; try clear kk
  refine awp_first fun K kk hK => ?_
  simp only [go_sem]
  refine hK _ _ fun nx => ?_; clear hK K; try clear kk
  refine awp_first fun K kk hK => ?_
  simp only [go_sem]
  refine hK _ _ fun nx => ?_; clear hK K; try clear kk
  refine awp_seq ?_
  refine awp_first fun K kk hK => ?_
  simp only [go_sem]
  refine hK _ _ fun nx => ?_; clear hK K; try clear kk
  obtain ⟨e0, f0, hh⟩ := bind_ex hh
  obtain ⟨hlen0, f0⟩ := chk_some f0
  refine awp_fragE (CutTo (fun s => ∃ out_78, out_78 = e0 ∧ ∃ (i_76 : Int) (v_77 : Bool) (nx : Nat) (g3 : Nat) (g4 : Nat) (g5 : Nat), s = ⟨[(0, .list 3 (l_1.map diptychlaw3_Cell.pv)), (3, .row 3 g3 [([97] : Str), ([98, 99] : Str), ([195, 169] : Str), ([120, 32, 121] : Str), ([230, 151, 165, 230, 156, 172] : Str)].length), (4, .row 4 g4 [([112, 97, 114, 97] : Str), ([105, 116, 101, 109] : Str), ([108, 105, 115, 116] : Str), ([110, 111, 116, 101] : Str)].length), (5, .row 5 g5 out_78.length), (6, .int .i64 i_76), (19, .bool v_77)], [(3, g3, .row false 1 ([([97] : Str), ([98, 99] : Str), ([195, 169] : Str), ([120, 32, 121] : Str), ([230, 151, 165, 230, 156, 172] : Str)].map PV.str)), (4, g4, .row false 1 ([([112, 97, 114, 97] : Str), ([105, 116, 101, 109] : Str), ([108, 105, 115, 116] : Str), ([110, 111, 116, 101] : Str)].map PV.str)), (5, g5, .row false 5 (out_78.map api_Node.pv))], nx⟩))
    (fun i s => False)
    (fun s => False) ?_ ?_ ?_ ?_
  · refine awp_block ?_
    refine awp_loopJ fun I hI => ?_
    have key : ∀ (suf pre : List diptychlaw3_Cell) (i_26 : Int) (out_27 : (List api_Node)), l_1 = pre ++ suf → i_26 = (pre.length : Int) → diptychlaw3_made_l0 suf i_26 out_27 = some e0 → ∀ (nx : Nat) (g3 : Nat) (g4 : Nat) (g5 : Nat), I ⟨[(0, .list 3 (l_1.map diptychlaw3_Cell.pv)), (3, .row 3 g3 [([97] : Str), ([98, 99] : Str), ([195, 169] : Str), ([120, 32, 121] : Str), ([230, 151, 165, 230, 156, 172] : Str)].length), (4, .row 4 g4 [([112, 97, 114, 97] : Str), ([105, 116, 101, 109] : Str), ([108, 105, 115, 116] : Str), ([110, 111, 116, 101] : Str)].length), (5, .row 5 g5 out_27.length), (6, .int .i64 i_26)], [(3, g3, .row false 1 ([([97] : Str), ([98, 99] : Str), ([195, 169] : Str), ([120, 32, 121] : Str), ([230, 151, 165, 230, 156, 172] : Str)].map PV.str)), (4, g4, .row false 1 ([([112, 97, 114, 97] : Str), ([105, 116, 101, 109] : Str), ([108, 105, 115, 116] : Str), ([110, 111, 116, 101] : Str)].map PV.str)), (5, g5, .row false 5 (out_27.map api_Node.pv))], nx⟩ := by
      intro suf
      induction suf with
      | nil =>
        intro pre i_26 out_27 hsplit hidx hh nx g3 g4 g5
        rw [diptychlaw3_made_l0] at hh
        refine hI _ ?_
        have h65 := walk_nil hsplit hidx
        refine awp_seq ?_
        refine awp_first fun K kk hK => ?_
        simp only [go_sem, h65, of_decide_eq_false h65, h65, of_decide_eq_false h65]
        (repeat (refine And.intro ?_ ?_; focus (first | assumption | (try simp only [List.length_append, List.length_cons, List.length_nil] at *; omega))))
        refine hK _ _ fun nx => ?_; clear hK K; try clear kk
        refine awp_false rfl ?_
        refine awp_exit ?_; (repeat (with_reducible first | refine then_n ?_ | refine then_r ?_ | refine then_e ?_ | refine block_n ?_ | refine block_r ?_ | refine exit_here ?_ | refine exit_on rfl ?_ | refine scope_n ?_ | refine scope_r ?_ | refine scope_e ?_ | refine cut_awp ?_))
        refine fragN ?_
        refine cut_id ?_
        refine ⟨_, (Option.some.inj hh), ?_⟩
        first | exact ⟨_, _, _, _, _, _, rfl⟩ | (simp only [diptychlaw3_Cell.pv_eq, api_Attr.pv_eq, api_Node.pv_eq, token_Token.pv_eq, diptychref3_Token.pv_eq, pvL, List.map_cons, List.map_nil, List.map_append, rune1]; exact ⟨_, _, _, _, _, _, rfl⟩)
      | cons y_52 suf ih =>
        intro pre i_26 out_27 hsplit hidx hh nx g3 g4 g5
        rw [diptychlaw3_made_l0] at hh
        refine hI _ ?_
        obtain ⟨hl0a, hl0b, hl0d, hl0w, h65⟩ := walk_cons (f := diptychlaw3_Cell.pv) hsplit hidx hlen0
        refine awp_seq ?_
        refine awp_first fun K kk hK => ?_
        simp only [go_sem, h65, of_decide_eq_true h65, h65, of_decide_eq_true h65, hl0a, hl0b, hl0d, hl0w]
        (repeat (refine And.intro ?_ ?_; focus (first | assumption | (try simp only [List.length_append, List.length_cons, List.length_nil] at *; omega))))
        refine hK _ _ fun nx => ?_; clear hK K; try clear kk
        by_cases h66 : (decide (i_26 < (19 : Int))) = true
        · rw [if_pos h66] at hh
          refine awp_true (by first | exact congrArg PV.bool h66 | rfl) ?_
          refine awp_skip ?_; (repeat (with_reducible first | refine then_n ?_ | refine then_r ?_ | refine then_e ?_ | refine block_n ?_ | refine block_r ?_ | refine exit_here ?_ | refine exit_on rfl ?_ | refine scope_n ?_ | refine scope_r ?_ | refine scope_e ?_ | refine cut_awp ?_))
          refine awp_seq ?_
          refine awp_block ?_
          refine awp_first fun K kk hK => ?_
          simp only [go_sem, hl0a, hl0b, hl0d, hl0w]
          refine hK _ _ fun nx => ?_; clear hK K; try clear kk
          obtain ⟨pick_53, h67, hh⟩ := bind_ex hh
          obtain ⟨x_54, h68, hh⟩ := bind_ex hh
          obtain ⟨h68a, h68b, h68c⟩ := rd_some h68
          have h68d := rd_get (f := PV.str) h68c
          have h68f := rd_more (f := PV.str) h68c
          try simp only [Int.toNat_natCast, Int.reduceToNat] at h68d h68f
          simp only [List.length_cons, List.length_nil, List.map_cons, List.map_nil, Nat.zero_add, Nat.reduceAdd, reduceCtorEq, not_false_eq_true, and_true, diptychlaw3_Cell.pv_eq, api_Attr.pv_eq, api_Node.pv_eq, token_Token.pv_eq, diptychref3_Token.pv_eq, pvL] at h68b h68d h68f
          refine awp_first fun K kk hK => ?_
          simp only [go_sem, h68a, h68b, h68d, h68f, hl0a, hl0b, hl0d, hl0w]
          (repeat (refine And.intro ?_ ?_; focus (first | assumption | (try simp only [List.length_append, List.length_cons, List.length_nil] at *; omega))))
          refine step_call2 (diptychlaw3_pick_ok _ _ _ h67) (by try simp only [go_sem, h68a, h68b, h68d, h68f, hl0a, hl0b, hl0d, hl0w]; (repeat (first | exact WkL.refl _ | exact Wk.refl _ | exact Wk.nil _ | refine WkL.cons _ _ _ _ ?_ ?_ | exact WkL.nil | refine Wk.agg _ _ ?_ | refine Wk.tup _ _ ?_))) (by rfl) (by rfl) ?_
          simp only [go_sem, h68a, h68b, h68d, h68f, hl0a, hl0b, hl0d, hl0w]
          (repeat (refine And.intro ?_ ?_; focus (first | assumption | (try simp only [List.length_append, List.length_cons, List.length_nil] at *; omega))))
          refine hK _ _ fun nx => ?_; clear hK K; try clear kk
          refine awp_seq ?_
          obtain ⟨e9, f9, hh⟩ := bind_ex hh
          refine awp_frag (fun s => ∃ n_58, n_58 = e9 ∧ ∃ (nx : Nat) (g3 : Nat) (g4 : Nat) (g5 : Nat) (g7 : Nat) (g8 : Nat), s = ⟨[(0, .list 3 (l_1.map diptychlaw3_Cell.pv)), (3, .row 3 g3 [([97] : Str), ([98, 99] : Str), ([195, 169] : Str), ([120, 32, 121] : Str), ([230, 151, 165, 230, 156, 172] : Str)].length), (4, .row 4 g4 [([112, 97, 114, 97] : Str), ([105, 116, 101, 109] : Str), ([108, 105, 115, 116] : Str), ([110, 111, 116, 101] : Str)].length), (5, .row 5 g5 out_27.length), (6, .int .i64 i_26), (7, .box 7 g7 0), (8, .box 8 g8 0)], [(3, g3, .row false 1 ([([97] : Str), ([98, 99] : Str), ([195, 169] : Str), ([120, 32, 121] : Str), ([230, 151, 165, 230, 156, 172] : Str)].map PV.str)), (4, g4, .row false 1 ([([112, 97, 114, 97] : Str), ([105, 116, 101, 109] : Str), ([108, 105, 115, 116] : Str), ([110, 111, 116, 101] : Str)].map PV.str)), (5, g5, .row false 5 (out_27.map api_Node.pv)), (7, g7, .var 77 [.int .i64 y_52.Op, .int .i64 y_52.A, .int .i64 y_52.B]), (8, g8, .var 27 [.str x_54, .str ([] : Str), .list 1 ([].map PV.str), .list 2 (n_58.map api_Attr.pv), .list 5 ([].map api_Node.pv)])], nx⟩)
            (fun i s => False)
            (fun s => False) ?_ ?_ ?_ ?_
          · have hh := f9
            obtain ⟨pick_55, h69, hh⟩ := bind_ex hh
            refine awp_first fun K kk hK => ?_
            simp only [go_sem, hl0a, hl0b, hl0d, hl0w]
            refine step_call2 (diptychlaw3_pick_ok _ _ _ h69) (by try simp only [go_sem, hl0a, hl0b, hl0d, hl0w]; (repeat (first | exact WkL.refl _ | exact Wk.refl _ | exact Wk.nil _ | refine WkL.cons _ _ _ _ ?_ ?_ | exact WkL.nil | refine Wk.agg _ _ ?_ | refine Wk.tup _ _ ?_))) (by rfl) (by rfl) ?_
            simp only [go_sem, hl0a, hl0b, hl0d, hl0w]
            refine hK _ _ fun nx => ?_; clear hK K; try clear kk
            by_cases h70 : (pick_55 == (1 : Int)) = true
            · rw [if_pos h70] at hh
              refine awp_true (by first | exact congrArg PV.bool h70 | rfl) ?_
              obtain ⟨pick_56, h71, hh⟩ := bind_ex hh
              obtain ⟨x_57, h72, hh⟩ := bind_ex hh
              obtain ⟨h72a, h72b, h72c⟩ := rd_some h72
              have h72d := rd_get (f := PV.str) h72c
              have h72f := rd_more (f := PV.str) h72c
              try simp only [Int.toNat_natCast, Int.reduceToNat] at h72d h72f
              simp only [List.length_cons, List.length_nil, List.map_cons, List.map_nil, Nat.zero_add, Nat.reduceAdd, reduceCtorEq, not_false_eq_true, and_true, diptychlaw3_Cell.pv_eq, api_Attr.pv_eq, api_Node.pv_eq, token_Token.pv_eq, diptychref3_Token.pv_eq, pvL] at h72b h72d h72f
              refine awp_region fun K kk hK => ?_
              simp only [go_sem, h72a, h72b, h72d, h72f, hl0a, hl0b, hl0d, hl0w]
              (repeat (refine And.intro ?_ ?_; focus (first | assumption | (try simp only [List.length_append, List.length_cons, List.length_nil] at *; omega))))
              refine step_call2 (diptychlaw3_pick_ok _ _ _ h71) (by try simp only [go_sem, h72a, h72b, h72d, h72f, hl0a, hl0b, hl0d, hl0w]; (repeat (first | exact WkL.refl _ | exact Wk.refl _ | exact Wk.nil _ | refine WkL.cons _ _ _ _ ?_ ?_ | exact WkL.nil | refine Wk.agg _ _ ?_ | refine Wk.tup _ _ ?_))) (by rfl) (by rfl) ?_
              simp only [go_sem, h72a, h72b, h72d, h72f, hl0a, hl0b, hl0d, hl0w]
              (repeat (refine And.intro ?_ ?_; focus (first | assumption | (try simp only [List.length_append, List.length_cons, List.length_nil] at *; omega))))
              refine hK _ _ fun nx => ?_; clear hK K; try clear kk
              (repeat (with_reducible first | refine then_n ?_ | refine then_r ?_ | refine then_e ?_ | refine block_n ?_ | refine block_r ?_ | refine exit_here ?_ | refine exit_on rfl ?_ | refine scope_n ?_ | refine scope_r ?_ | refine scope_e ?_ | refine cut_awp ?_))
              refine fragN ?_
              refine cut_id ?_
              refine ⟨_, (Option.some.inj hh), ?_⟩
              first | exact ⟨_, _, _, _, _, _, rfl⟩ | (simp only [diptychlaw3_Cell.pv_eq, api_Attr.pv_eq, api_Node.pv_eq, token_Token.pv_eq, diptychref3_Token.pv_eq, pvL, List.map_cons, List.map_nil, List.map_append, rune1]; exact ⟨_, _, _, _, _, _, rfl⟩)
            · rw [if_neg h70] at hh
              replace h70 := Bool.eq_false_iff.mpr h70
              refine awp_false (by first | exact congrArg PV.bool h70 | rfl) ?_
              refine awp_skip ?_; (repeat (with_reducible first | refine then_n ?_ | refine then_r ?_ | refine then_e ?_ | refine block_n ?_ | refine block_r ?_ | refine exit_here ?_ | refine exit_on rfl ?_ | refine scope_n ?_ | refine scope_r ?_ | refine scope_e ?_ | refine cut_awp ?_))
              refine fragN ?_
              refine cut_to (less_cut _ [0, 3, 4, 5, 6, 7, 8] [3, 4, 5, 7, 8]) ?_
              refine ⟨_, (Option.some.inj hh), ?_⟩
              first | exact ⟨_, _, _, _, _, _, rfl⟩ | (simp only [diptychlaw3_Cell.pv_eq, api_Attr.pv_eq, api_Node.pv_eq, token_Token.pv_eq, diptychref3_Token.pv_eq, pvL, List.map_cons, List.map_nil, List.map_append, rune1]; exact ⟨_, _, _, _, _, _, rfl⟩)
          · rintro s ⟨n_58, rfl, nx, g3, g4, g5, g7, g8, rfl⟩
            try dsimp only at hh
            refine awp_seq ?_
            obtain ⟨pick_59, h73, hh⟩ := bind_ex hh
            refine awp_first fun K kk hK => ?_
            simp only [go_sem, hl0a, hl0b, hl0d, hl0w]
            refine step_call2 (diptychlaw3_pick_ok _ _ _ h73) (by try simp only [go_sem, hl0a, hl0b, hl0d, hl0w]; (repeat (first | exact WkL.refl _ | exact Wk.refl _ | exact Wk.nil _ | refine WkL.cons _ _ _ _ ?_ ?_ | exact WkL.nil | refine Wk.agg _ _ ?_ | refine Wk.tup _ _ ?_))) (by rfl) (by rfl) ?_
            simp only [go_sem, hl0a, hl0b, hl0d, hl0w]
            refine hK _ _ fun nx => ?_; clear hK K; try clear kk
            refine awp_block ?_
            refine awp_seq ?_
            obtain ⟨e10, f10, hh⟩ := bind_ex hh
            refine awp_frag (fun s => ∃ v_60, v_60 = e10 ∧ ∃ (nx : Nat) (g3 : Nat) (g4 : Nat) (g5 : Nat) (g7 : Nat) (g8 : Nat), s = ⟨[(0, .list 3 (l_1.map diptychlaw3_Cell.pv)), (3, .row 3 g3 [([97] : Str), ([98, 99] : Str), ([195, 169] : Str), ([120, 32, 121] : Str), ([230, 151, 165, 230, 156, 172] : Str)].length), (4, .row 4 g4 [([112, 97, 114, 97] : Str), ([105, 116, 101, 109] : Str), ([108, 105, 115, 116] : Str), ([110, 111, 116, 101] : Str)].length), (5, .row 5 g5 out_27.length), (6, .int .i64 i_26), (7, .box 7 g7 0), (8, .box 8 g8 0), (49, .int .i64 pick_59), (50, .bool v_60)], [(3, g3, .row false 1 ([([97] : Str), ([98, 99] : Str), ([195, 169] : Str), ([120, 32, 121] : Str), ([230, 151, 165, 230, 156, 172] : Str)].map PV.str)), (4, g4, .row false 1 ([([112, 97, 114, 97] : Str), ([105, 116, 101, 109] : Str), ([108, 105, 115, 116] : Str), ([110, 111, 116, 101] : Str)].map PV.str)), (5, g5, .row false 5 (out_27.map api_Node.pv)), (7, g7, .var 77 [.int .i64 y_52.Op, .int .i64 y_52.A, .int .i64 y_52.B]), (8, g8, .var 27 [.str x_54, .str ([] : Str), .list 1 ([].map PV.str), .list 2 (n_58.map api_Attr.pv), .list 5 ([].map api_Node.pv)])], nx⟩)
              (fun i s => False)
              (fun s => False) ?_ ?_ ?_ ?_
            · have hh := f10
              refine awp_first fun K kk hK => ?_
              simp only [go_sem, hl0a, hl0b, hl0d, hl0w]
              refine hK _ _ fun nx => ?_; clear hK K; try clear kk
              by_cases h74 : (pick_59 == (0 : Int)) = true
              · rw [if_pos h74] at hh
                refine awp_true (by first | exact congrArg PV.bool h74 | rfl) ?_
                refine awp_skip ?_; (repeat (with_reducible first | refine then_n ?_ | refine then_r ?_ | refine then_e ?_ | refine block_n ?_ | refine block_r ?_ | refine exit_here ?_ | refine exit_on rfl ?_ | refine scope_n ?_ | refine scope_r ?_ | refine scope_e ?_ | refine cut_awp ?_))
                refine fragN ?_
                refine cut_id ?_
                refine ⟨_, (Option.some.inj hh), ?_⟩
                first | exact ⟨_, _, _, _, _, _, rfl⟩ | (simp only [diptychlaw3_Cell.pv_eq, api_Attr.pv_eq, api_Node.pv_eq, token_Token.pv_eq, diptychref3_Token.pv_eq, pvL, List.map_cons, List.map_nil, List.map_append, rune1]; exact ⟨_, _, _, _, _, _, rfl⟩)
              · rw [if_neg h74] at hh
                replace h74 := Bool.eq_false_iff.mpr h74
                refine awp_false (by first | exact congrArg PV.bool h74 | rfl) ?_
                refine awp_first fun K kk hK => ?_
                simp only [go_sem, hl0a, hl0b, hl0d, hl0w]
                refine hK _ _ fun nx => ?_; clear hK K; try clear kk
                by_cases h75 : (pick_59 == (1 : Int)) = true
                · rw [if_pos h75] at hh
                  refine awp_true (by first | exact congrArg PV.bool h75 | rfl) ?_
                  refine awp_skip ?_; (repeat (with_reducible first | refine then_n ?_ | refine then_r ?_ | refine then_e ?_ | refine block_n ?_ | refine block_r ?_ | refine exit_here ?_ | refine exit_on rfl ?_ | refine scope_n ?_ | refine scope_r ?_ | refine scope_e ?_ | refine cut_awp ?_))
                  refine fragN ?_
                  refine cut_id ?_
                  refine ⟨_, (Option.some.inj hh), ?_⟩
                  first | exact ⟨_, _, _, _, _, _, rfl⟩ | (simp only [diptychlaw3_Cell.pv_eq, api_Attr.pv_eq, api_Node.pv_eq, token_Token.pv_eq, diptychref3_Token.pv_eq, pvL, List.map_cons, List.map_nil, List.map_append, rune1]; exact ⟨_, _, _, _, _, _, rfl⟩)
                · rw [if_neg h75] at hh
                  replace h75 := Bool.eq_false_iff.mpr h75
                  refine awp_false (by first | exact congrArg PV.bool h75 | rfl) ?_
                  refine awp_first fun K kk hK => ?_
                  simp only [go_sem, hl0a, hl0b, hl0d, hl0w]
                  refine hK _ _ fun nx => ?_; clear hK K; try clear kk
                  by_cases h76 : (pick_59 == (2 : Int)) = true
                  · rw [if_pos h76] at hh
                    refine awp_true (by first | exact congrArg PV.bool h76 | rfl) ?_
                    refine awp_skip ?_; (repeat (with_reducible first | refine then_n ?_ | refine then_r ?_ | refine then_e ?_ | refine block_n ?_ | refine block_r ?_ | refine exit_here ?_ | refine exit_on rfl ?_ | refine scope_n ?_ | refine scope_r ?_ | refine scope_e ?_ | refine cut_awp ?_))
                    refine fragN ?_
                    refine cut_id ?_
                    refine ⟨_, (Option.some.inj hh), ?_⟩
                    first | exact ⟨_, _, _, _, _, _, rfl⟩ | (simp only [diptychlaw3_Cell.pv_eq, api_Attr.pv_eq, api_Node.pv_eq, token_Token.pv_eq, diptychref3_Token.pv_eq, pvL, List.map_cons, List.map_nil, List.map_append, rune1]; exact ⟨_, _, _, _, _, _, rfl⟩)
                  · rw [if_neg h76] at hh
                    replace h76 := Bool.eq_false_iff.mpr h76
                    refine awp_false (by first | exact congrArg PV.bool h76 | rfl) ?_
                    refine awp_region fun K kk hK => ?_
                    simp only [go_sem, hl0a, hl0b, hl0d, hl0w]
                    refine hK _ _ fun nx => ?_; clear hK K; try clear kk
                    (repeat (with_reducible first | refine then_n ?_ | refine then_r ?_ | refine then_e ?_ | refine block_n ?_ | refine block_r ?_ | refine exit_here ?_ | refine exit_on rfl ?_ | refine scope_n ?_ | refine scope_r ?_ | refine scope_e ?_ | refine cut_awp ?_))
                    refine fragN ?_
                    refine cut_id ?_
                    refine ⟨_, (Option.some.inj hh), ?_⟩
                    first | exact ⟨_, _, _, _, _, _, rfl⟩ | (simp only [diptychlaw3_Cell.pv_eq, api_Attr.pv_eq, api_Node.pv_eq, token_Token.pv_eq, diptychref3_Token.pv_eq, pvL, List.map_cons, List.map_nil, List.map_append, rune1]; exact ⟨_, _, _, _, _, _, rfl⟩)
            · rintro s ⟨v_60, rfl, nx, g3, g4, g5, g7, g8, rfl⟩
              try dsimp only at hh
              by_cases h77 : (v_60) = true
              · rw [if_pos h77] at hh
                refine awp_true (by first | exact congrArg PV.bool h77 | rfl) ?_
                obtain ⟨pick_61, h78, hh⟩ := bind_ex hh
                obtain ⟨x_62, h79, hh⟩ := bind_ex hh
                obtain ⟨h79a, h79b, h79c⟩ := rd_some h79
                have h79d := rd_get (f := PV.str) h79c
                have h79f := rd_more (f := PV.str) h79c
                try simp only [Int.toNat_natCast, Int.reduceToNat] at h79d h79f
                simp only [List.length_cons, List.length_nil, List.map_cons, List.map_nil, Nat.zero_add, Nat.reduceAdd, reduceCtorEq, not_false_eq_true, and_true, diptychlaw3_Cell.pv_eq, api_Attr.pv_eq, api_Node.pv_eq, token_Token.pv_eq, diptychref3_Token.pv_eq, pvL] at h79b h79d h79f
                refine awp_first fun K kk hK => ?_
                simp only [go_sem, h79a, h79b, h79d, h79f, hl0a, hl0b, hl0d, hl0w]
                (repeat (refine And.intro ?_ ?_; focus (first | assumption | (try simp only [List.length_append, List.length_cons, List.length_nil] at *; omega))))
                refine step_call2 (diptychlaw3_pick_ok _ _ _ h78) (by try simp only [go_sem, h79a, h79b, h79d, h79f, hl0a, hl0b, hl0d, hl0w]; (repeat (first | exact WkL.refl _ | exact Wk.refl _ | exact Wk.nil _ | refine WkL.cons _ _ _ _ ?_ ?_ | exact WkL.nil | refine Wk.agg _ _ ?_ | refine Wk.tup _ _ ?_))) (by rfl) (by rfl) ?_
                simp only [go_sem, h79a, h79b, h79d, h79f, hl0a, hl0b, hl0d, hl0w]
                (repeat (refine And.intro ?_ ?_; focus (first | assumption | (try simp only [List.length_append, List.length_cons, List.length_nil] at *; omega))))
                refine hK _ _ fun nx => ?_; clear hK K; try clear kk
                refine awp_seq ?_
                obtain ⟨e11, f11, hh⟩ := bind_ex hh
                refine awp_frag (fun s => ∃ n_64, n_64 = e11 ∧ ∃ (nx : Nat) (g3 : Nat) (g4 : Nat) (g5 : Nat) (g7 : Nat) (g8 : Nat), s = ⟨[(0, .list 3 (l_1.map diptychlaw3_Cell.pv)), (3, .row 3 g3 [([97] : Str), ([98, 99] : Str), ([195, 169] : Str), ([120, 32, 121] : Str), ([230, 151, 165, 230, 156, 172] : Str)].length), (4, .row 4 g4 [([112, 97, 114, 97] : Str), ([105, 116, 101, 109] : Str), ([108, 105, 115, 116] : Str), ([110, 111, 116, 101] : Str)].length), (5, .row 5 g5 out_27.length), (6, .int .i64 i_26), (7, .box 7 g7 0), (8, .box 8 g8 0)], [(3, g3, .row false 1 ([([97] : Str), ([98, 99] : Str), ([195, 169] : Str), ([120, 32, 121] : Str), ([230, 151, 165, 230, 156, 172] : Str)].map PV.str)), (4, g4, .row false 1 ([([112, 97, 114, 97] : Str), ([105, 116, 101, 109] : Str), ([108, 105, 115, 116] : Str), ([110, 111, 116, 101] : Str)].map PV.str)), (5, g5, .row false 5 (out_27.map api_Node.pv)), (7, g7, .var 77 [.int .i64 y_52.Op, .int .i64 y_52.A, .int .i64 y_52.B]), (8, g8, .var 27 [.str ([116, 101, 120, 116] : Str), .str x_62, .list 1 (n_64.map PV.str), .list 2 ([].map api_Attr.pv), .list 5 ([].map api_Node.pv)])], nx⟩)
                  (fun i s => False)
                  (fun s => False) ?_ ?_ ?_ ?_
                · have hh := f11
                  obtain ⟨pick_63, h80, hh⟩ := bind_ex hh
                  refine awp_first fun K kk hK => ?_
                  simp only [go_sem, hl0a, hl0b, hl0d, hl0w]
                  refine step_call2 (diptychlaw3_pick_ok _ _ _ h80) (by try simp only [go_sem, hl0a, hl0b, hl0d, hl0w]; (repeat (first | exact WkL.refl _ | exact Wk.refl _ | exact Wk.nil _ | refine WkL.cons _ _ _ _ ?_ ?_ | exact WkL.nil | refine Wk.agg _ _ ?_ | refine Wk.tup _ _ ?_))) (by rfl) (by rfl) ?_
                  simp only [go_sem, hl0a, hl0b, hl0d, hl0w]
                  refine hK _ _ fun nx => ?_; clear hK K; try clear kk
                  by_cases h81 : (pick_63 == (1 : Int)) = true
                  · rw [if_pos h81] at hh
                    refine awp_true (by first | exact congrArg PV.bool h81 | rfl) ?_
                    refine awp_region fun K kk hK => ?_
                    simp only [go_sem, hl0a, hl0b, hl0d, hl0w]
                    refine hK _ _ fun nx => ?_; clear hK K; try clear kk
                    (repeat (with_reducible first | refine then_n ?_ | refine then_r ?_ | refine then_e ?_ | refine block_n ?_ | refine block_r ?_ | refine exit_here ?_ | refine exit_on rfl ?_ | refine scope_n ?_ | refine scope_r ?_ | refine scope_e ?_ | refine cut_awp ?_))
                    refine fragN ?_
                    refine cut_id ?_
                    refine ⟨_, (Option.some.inj hh), ?_⟩
                    first | exact ⟨_, _, _, _, _, _, rfl⟩ | (simp only [diptychlaw3_Cell.pv_eq, api_Attr.pv_eq, api_Node.pv_eq, token_Token.pv_eq, diptychref3_Token.pv_eq, pvL, List.map_cons, List.map_nil, List.map_append, rune1]; exact ⟨_, _, _, _, _, _, rfl⟩)
                  · rw [if_neg h81] at hh
                    replace h81 := Bool.eq_false_iff.mpr h81
                    refine awp_false (by first | exact congrArg PV.bool h81 | rfl) ?_
                    refine awp_skip ?_; (repeat (with_reducible first | refine then_n ?_ | refine then_r ?_ | refine then_e ?_ | refine block_n ?_ | refine block_r ?_ | refine exit_here ?_ | refine exit_on rfl ?_ | refine scope_n ?_ | refine scope_r ?_ | refine scope_e ?_ | refine cut_awp ?_))
                    refine fragN ?_
                    refine cut_to (less_cut _ [0, 3, 4, 5, 6, 7, 8] [3, 4, 5, 7, 8]) ?_
                    refine ⟨_, (Option.some.inj hh), ?_⟩
                    first | exact ⟨_, _, _, _, _, _, rfl⟩ | (simp only [diptychlaw3_Cell.pv_eq, api_Attr.pv_eq, api_Node.pv_eq, token_Token.pv_eq, diptychref3_Token.pv_eq, pvL, List.map_cons, List.map_nil, List.map_append, rune1]; exact ⟨_, _, _, _, _, _, rfl⟩)
                · rintro s ⟨n_64, rfl, nx, g3, g4, g5, g7, g8, rfl⟩
                  try dsimp only at hh
                  obtain ⟨pick_65, h82, hh⟩ := bind_ex hh
                  refine awp_first fun K kk hK => ?_
                  simp only [go_sem, hl0a, hl0b, hl0d, hl0w]
                  refine step_call2 (diptychlaw3_pick_ok _ _ _ h82) (by try simp only [go_sem, hl0a, hl0b, hl0d, hl0w]; (repeat (first | exact WkL.refl _ | exact Wk.refl _ | exact Wk.nil _ | refine WkL.cons _ _ _ _ ?_ ?_ | exact WkL.nil | refine Wk.agg _ _ ?_ | refine Wk.tup _ _ ?_))) (by rfl) (by rfl) ?_
                  simp only [go_sem, hl0a, hl0b, hl0d, hl0w]
                  refine hK _ _ fun nx => ?_; clear hK K; try clear kk
                  by_cases h83 : (pick_65 == (2 : Int)) = true
                  · rw [if_pos h83] at hh
                    refine awp_true (by first | exact congrArg PV.bool h83 | rfl) ?_
                    refine awp_region fun K kk hK => ?_
                    simp only [go_sem, hl0a, hl0b, hl0d, hl0w]
                    refine hK _ _ fun nx => ?_; clear hK K; try clear kk
                    (repeat (with_reducible first | refine then_n ?_ | refine then_r ?_ | refine then_e ?_ | refine block_n ?_ | refine block_r ?_ | refine exit_here ?_ | refine exit_on rfl ?_ | refine scope_n ?_ | refine scope_r ?_ | refine scope_e ?_ | refine cut_awp ?_))
                    obtain ⟨l_66, h84, hh⟩ := bind_ex hh
                    obtain ⟨h84a, h84c⟩ := app_some h84
                    have h84d := app_map (f := api_Node.pv) h84c
                    have h84e := app_len h84c
                    try simp only [List.length_cons, List.length_nil, Nat.zero_add, Nat.reduceAdd] at h84a h84e
                    try simp only [h84e] at h84a
                    try simp only [List.map_cons, List.map_nil, List.nil_append, List.append_nil, List.cons_append, List.singleton_append, rune1, diptychlaw3_Cell.pv_eq, api_Attr.pv_eq, api_Node.pv_eq, token_Token.pv_eq, diptychref3_Token.pv_eq, pvL] at h84d
                    refine awp_region fun K kk hK => ?_
                    simp only [go_sem, h84a, h84d, h84e, hl0a, hl0b, hl0d, hl0w]
                    (repeat (refine And.intro ?_ ?_; focus (first | assumption | (try simp only [List.length_append, List.length_cons, List.length_nil] at *; omega))))
                    refine hK _ _ fun nx => ?_; clear hK K; try clear kk
                    (repeat (with_reducible first | refine then_n ?_ | refine then_r ?_ | refine then_e ?_ | refine block_n ?_ | refine block_r ?_ | refine exit_here ?_ | refine exit_on rfl ?_ | refine scope_n ?_ | refine scope_r ?_ | refine scope_e ?_ | refine cut_awp ?_))
                    refine awp_region fun K kk hK => ?_
                    simp only [go_sem, hl0a, hl0b, hl0d, hl0w]
                    refine hK _ _ fun nx => ?_; clear hK K; try clear kk
                    (repeat (with_reducible first | refine then_n ?_ | refine then_r ?_ | refine then_e ?_ | refine block_n ?_ | refine block_r ?_ | refine exit_here ?_ | refine exit_on rfl ?_ | refine scope_n ?_ | refine scope_r ?_ | refine scope_e ?_ | refine cut_awp ?_))
                    have ih' := ih (pre ++ [y_52]) (i_26 + 1) _ (by rw [hsplit]; simp) (by simp [hidx]) hh nx
                    refine cut_id ?_
                    first | exact ih' _ _ _ | (simp only [diptychlaw3_Cell.pv_eq, api_Attr.pv_eq, api_Node.pv_eq, token_Token.pv_eq, diptychref3_Token.pv_eq, pvL, List.map_cons, List.map_nil, List.map_append, rune1, h84e] at ih' ⊢; exact ih' _ _ _)
                  · rw [if_neg h83] at hh
                    replace h83 := Bool.eq_false_iff.mpr h83
                    refine awp_false (by first | exact congrArg PV.bool h83 | rfl) ?_
                    refine awp_skip ?_; (repeat (with_reducible first | refine then_n ?_ | refine then_r ?_ | refine then_e ?_ | refine block_n ?_ | refine block_r ?_ | refine exit_here ?_ | refine exit_on rfl ?_ | refine scope_n ?_ | refine scope_r ?_ | refine scope_e ?_ | refine cut_awp ?_))
                    obtain ⟨l_67, h85, hh⟩ := bind_ex hh
                    obtain ⟨h85a, h85c⟩ := app_some h85
                    have h85d := app_map (f := api_Node.pv) h85c
                    have h85e := app_len h85c
                    try simp only [List.length_cons, List.length_nil, Nat.zero_add, Nat.reduceAdd] at h85a h85e
                    try simp only [h85e] at h85a
                    try simp only [List.map_cons, List.map_nil, List.nil_append, List.append_nil, List.cons_append, List.singleton_append, rune1, diptychlaw3_Cell.pv_eq, api_Attr.pv_eq, api_Node.pv_eq, token_Token.pv_eq, diptychref3_Token.pv_eq, pvL] at h85d
                    refine awp_region fun K kk hK => ?_
                    simp only [go_sem, h85a, h85d, h85e, hl0a, hl0b, hl0d, hl0w]
                    (repeat (refine And.intro ?_ ?_; focus (first | assumption | (try simp only [List.length_append, List.length_cons, List.length_nil] at *; omega))))
                    refine hK _ _ fun nx => ?_; clear hK K; try clear kk
                    (repeat (with_reducible first | refine then_n ?_ | refine then_r ?_ | refine then_e ?_ | refine block_n ?_ | refine block_r ?_ | refine exit_here ?_ | refine exit_on rfl ?_ | refine scope_n ?_ | refine scope_r ?_ | refine scope_e ?_ | refine cut_awp ?_))
                    refine awp_region fun K kk hK => ?_
                    simp only [go_sem, hl0a, hl0b, hl0d, hl0w]
                    refine hK _ _ fun nx => ?_; clear hK K; try clear kk
                    (repeat (with_reducible first | refine then_n ?_ | refine then_r ?_ | refine then_e ?_ | refine block_n ?_ | refine block_r ?_ | refine exit_here ?_ | refine exit_on rfl ?_ | refine scope_n ?_ | refine scope_r ?_ | refine scope_e ?_ | refine cut_awp ?_))
                    have ih' := ih (pre ++ [y_52]) (i_26 + 1) _ (by rw [hsplit]; simp) (by simp [hidx]) hh nx
                    refine cut_id ?_
                    first | exact ih' _ _ _ | (simp only [diptychlaw3_Cell.pv_eq, api_Attr.pv_eq, api_Node.pv_eq, token_Token.pv_eq, diptychref3_Token.pv_eq, pvL, List.map_cons, List.map_nil, List.map_append, rune1, h85e] at ih' ⊢; exact ih' _ _ _)
                · intro i s h; exact h.elim
                · intro s h; exact h.elim
              · rw [if_neg h77] at hh
                replace h77 := Bool.eq_false_iff.mpr h77
                refine awp_false (by first | exact congrArg PV.bool h77 | rfl) ?_
                refine awp_seq ?_
                obtain ⟨e12, f12, hh⟩ := bind_ex hh
                refine awp_frag (fun s => ∃ v_68, v_68 = e12 ∧ ∃ (nx : Nat) (g3 : Nat) (g4 : Nat) (g5 : Nat) (g7 : Nat) (g8 : Nat), s = ⟨[(0, .list 3 (l_1.map diptychlaw3_Cell.pv)), (3, .row 3 g3 [([97] : Str), ([98, 99] : Str), ([195, 169] : Str), ([120, 32, 121] : Str), ([230, 151, 165, 230, 156, 172] : Str)].length), (4, .row 4 g4 [([112, 97, 114, 97] : Str), ([105, 116, 101, 109] : Str), ([108, 105, 115, 116] : Str), ([110, 111, 116, 101] : Str)].length), (5, .row 5 g5 out_27.length), (6, .int .i64 i_26), (7, .box 7 g7 0), (8, .box 8 g8 0), (74, .bool v_68)], [(3, g3, .row false 1 ([([97] : Str), ([98, 99] : Str), ([195, 169] : Str), ([120, 32, 121] : Str), ([230, 151, 165, 230, 156, 172] : Str)].map PV.str)), (4, g4, .row false 1 ([([112, 97, 114, 97] : Str), ([105, 116, 101, 109] : Str), ([108, 105, 115, 116] : Str), ([110, 111, 116, 101] : Str)].map PV.str)), (5, g5, .row false 5 (out_27.map api_Node.pv)), (7, g7, .var 77 [.int .i64 y_52.Op, .int .i64 y_52.A, .int .i64 y_52.B]), (8, g8, .var 27 [.str x_54, .str ([] : Str), .list 1 ([].map PV.str), .list 2 (n_58.map api_Attr.pv), .list 5 ([].map api_Node.pv)])], nx⟩)
                  (fun i s => False)
                  (fun s => False) ?_ ?_ ?_ ?_
                · have hh := f12
                  refine awp_first fun K kk hK => ?_
                  simp only [go_sem, hl0a, hl0b, hl0d, hl0w]
                  refine hK _ _ fun nx => ?_; clear hK K; try clear kk
                  by_cases h86 : (pick_59 == (4 : Int)) = true
                  · rw [if_pos h86] at hh
                    refine awp_true (by first | exact congrArg PV.bool h86 | rfl) ?_
                    refine awp_skip ?_; (repeat (with_reducible first | refine then_n ?_ | refine then_r ?_ | refine then_e ?_ | refine block_n ?_ | refine block_r ?_ | refine exit_here ?_ | refine exit_on rfl ?_ | refine scope_n ?_ | refine scope_r ?_ | refine scope_e ?_ | refine cut_awp ?_))
                    refine fragN ?_
                    refine cut_to (less_cut _ [0, 3, 4, 5, 6, 7, 8, 74] [3, 4, 5, 7, 8]) ?_
                    refine ⟨_, (Option.some.inj hh), ?_⟩
                    first | exact ⟨_, _, _, _, _, _, rfl⟩ | (simp only [diptychlaw3_Cell.pv_eq, api_Attr.pv_eq, api_Node.pv_eq, token_Token.pv_eq, diptychref3_Token.pv_eq, pvL, List.map_cons, List.map_nil, List.map_append, rune1]; exact ⟨_, _, _, _, _, _, rfl⟩)
                  · rw [if_neg h86] at hh
                    replace h86 := Bool.eq_false_iff.mpr h86
                    refine awp_false (by first | exact congrArg PV.bool h86 | rfl) ?_
                    refine awp_first fun K kk hK => ?_
                    simp only [go_sem, hl0a, hl0b, hl0d, hl0w]
                    refine hK _ _ fun nx => ?_; clear hK K; try clear kk
                    by_cases h87 : (pick_59 == (5 : Int)) = true
                    · rw [if_pos h87] at hh
                      refine awp_true (by first | exact congrArg PV.bool h87 | rfl) ?_
                      refine awp_skip ?_; (repeat (with_reducible first | refine then_n ?_ | refine then_r ?_ | refine then_e ?_ | refine block_n ?_ | refine block_r ?_ | refine exit_here ?_ | refine exit_on rfl ?_ | refine scope_n ?_ | refine scope_r ?_ | refine scope_e ?_ | refine cut_awp ?_))
                      refine fragN ?_
                      refine cut_to (less_cut _ [0, 3, 4, 5, 6, 7, 8, 74] [3, 4, 5, 7, 8]) ?_
                      refine ⟨_, (Option.some.inj hh), ?_⟩
                      first | exact ⟨_, _, _, _, _, _, rfl⟩ | (simp only [diptychlaw3_Cell.pv_eq, api_Attr.pv_eq, api_Node.pv_eq, token_Token.pv_eq, diptychref3_Token.pv_eq, pvL, List.map_cons, List.map_nil, List.map_append, rune1]; exact ⟨_, _, _, _, _, _, rfl⟩)
                    · rw [if_neg h87] at hh
                      replace h87 := Bool.eq_false_iff.mpr h87
                      refine awp_false (by first | exact congrArg PV.bool h87 | rfl) ?_
                      refine awp_region fun K kk hK => ?_
                      simp only [go_sem, hl0a, hl0b, hl0d, hl0w]
                      refine hK _ _ fun nx => ?_; clear hK K; try clear kk
                      (repeat (with_reducible first | refine then_n ?_ | refine then_r ?_ | refine then_e ?_ | refine block_n ?_ | refine block_r ?_ | refine exit_here ?_ | refine exit_on rfl ?_ | refine scope_n ?_ | refine scope_r ?_ | refine scope_e ?_ | refine cut_awp ?_))
                      refine fragN ?_
                      refine cut_id ?_
                      refine ⟨_, (Option.some.inj hh), ?_⟩
                      first | exact ⟨_, _, _, _, _, _, rfl⟩ | (simp only [diptychlaw3_Cell.pv_eq, api_Attr.pv_eq, api_Node.pv_eq, token_Token.pv_eq, diptychref3_Token.pv_eq, pvL, List.map_cons, List.map_nil, List.map_append, rune1]; exact ⟨_, _, _, _, _, _, rfl⟩)
                · rintro s ⟨v_68, rfl, nx, g3, g4, g5, g7, g8, rfl⟩
                  try dsimp only at hh
                  by_cases h88 : (v_68) = true
                  · rw [if_pos h88] at hh
                    refine awp_true (by first | exact congrArg PV.bool h88 | rfl) ?_
                    obtain ⟨pick_69, h89, hh⟩ := bind_ex hh
                    refine awp_first fun K kk hK => ?_
                    simp only [go_sem, hl0a, hl0b, hl0d, hl0w]
                    refine step_call2 (diptychlaw3_pick_ok _ _ _ h89) (by try simp only [go_sem, hl0a, hl0b, hl0d, hl0w]; (repeat (first | exact WkL.refl _ | exact Wk.refl _ | exact Wk.nil _ | refine WkL.cons _ _ _ _ ?_ ?_ | exact WkL.nil | refine Wk.agg _ _ ?_ | refine Wk.tup _ _ ?_))) (by rfl) (by rfl) ?_
                    simp only [go_sem, hl0a, hl0b, hl0d, hl0w]
                    refine hK _ _ fun nx => ?_; clear hK K; try clear kk
                    obtain ⟨s_70, h90, hh⟩ := bind_ex hh
                    obtain ⟨h90a, h90c⟩ := sl_some h90
                    have h90g := sl_le h90a
                    have h90d := sl_map1 (f := api_Node.pv) h90c
                    try simp only [Int.toNat_natCast, Int.reduceToNat, List.map_cons, List.map_nil, diptychlaw3_Cell.pv_eq, api_Attr.pv_eq, api_Node.pv_eq, token_Token.pv_eq, diptychref3_Token.pv_eq, pvL] at h90d
                    obtain ⟨join_71, h91, hh⟩ := bind_ex hh
                    refine awp_first fun K kk hK => ?_
                    simp only [go_sem, h90a.1, h90a.2.1, h90a.2.2, h90d, h90g, hl0a, hl0b, hl0d, hl0w]
                    (repeat (refine And.intro ?_ ?_; focus (first | assumption | (try simp only [List.length_append, List.length_cons, List.length_nil] at *; omega))))
                    refine step_call2 (diptychref1_Join_ok _ _ h91).list (by try simp only [go_sem, h90a.1, h90a.2.1, h90a.2.2, h90d, h90g, hl0a, hl0b, hl0d, hl0w]; (repeat (first | exact WkL.refl _ | exact Wk.refl _ | exact Wk.nil _ | refine WkL.cons _ _ _ _ ?_ ?_ | exact WkL.nil | refine Wk.agg _ _ ?_ | refine Wk.tup _ _ ?_))) (by rfl) (by rfl) ?_
                    simp only [go_sem, h90a.1, h90a.2.1, h90a.2.2, h90d, h90g, hl0a, hl0b, hl0d, hl0w]
                    (repeat (refine And.intro ?_ ?_; focus (first | assumption | (try simp only [List.length_append, List.length_cons, List.length_nil] at *; omega))))
                    refine hK _ _ fun nx => ?_; clear hK K; try clear kk
                    obtain ⟨s_72, h92, hh⟩ := bind_ex hh
                    obtain ⟨h92a, h92c⟩ := sl_some h92
                    have h92g := sl_le h92a
                    have h92d := sl_map0 (f := api_Node.pv) h92c
                    try simp only [Int.toNat_natCast, Int.reduceToNat, List.map_cons, List.map_nil, diptychlaw3_Cell.pv_eq, api_Attr.pv_eq, api_Node.pv_eq, token_Token.pv_eq, diptychref3_Token.pv_eq, pvL] at h92d
                    obtain ⟨l_73, h93, hh⟩ := bind_ex hh
                    obtain ⟨h93a, h93c⟩ := app_some h93
                    have h93d := app_map (f := api_Node.pv) h93c
                    have h93e := app_len h93c
                    try simp only [List.length_cons, List.length_nil, Nat.zero_add, Nat.reduceAdd] at h93a h93e
                    try simp only [h93e] at h93a
                    try simp only [List.map_cons, List.map_nil, List.nil_append, List.append_nil, List.cons_append, List.singleton_append, rune1, diptychlaw3_Cell.pv_eq, api_Attr.pv_eq, api_Node.pv_eq, token_Token.pv_eq, diptychref3_Token.pv_eq, pvL] at h93d
                    refine awp_region fun K kk hK => ?_
                    simp only [go_sem, h92a.1, h92a.2.1, h92a.2.2, h92d, h92g, h93a, h93d, h93e, hl0a, hl0b, hl0d, hl0w]
                    (repeat (refine And.intro ?_ ?_; focus (first | assumption | (try simp only [List.length_append, List.length_cons, List.length_nil] at *; omega))))
                    refine hK _ _ fun nx => ?_; clear hK K; try clear kk
                    (repeat (with_reducible first | refine then_n ?_ | refine then_r ?_ | refine then_e ?_ | refine block_n ?_ | refine block_r ?_ | refine exit_here ?_ | refine exit_on rfl ?_ | refine scope_n ?_ | refine scope_r ?_ | refine scope_e ?_ | refine cut_awp ?_))
                    obtain ⟨l_74, h94, hh⟩ := bind_ex hh
                    obtain ⟨h94a, h94c⟩ := app_some h94
                    have h94d := app_map (f := api_Node.pv) h94c
                    have h94e := app_len h94c
                    try simp only [List.length_cons, List.length_nil, Nat.zero_add, Nat.reduceAdd] at h94a h94e
                    try simp only [h94e] at h94a
                    try simp only [List.map_cons, List.map_nil, List.nil_append, List.append_nil, List.cons_append, List.singleton_append, rune1, diptychlaw3_Cell.pv_eq, api_Attr.pv_eq, api_Node.pv_eq, token_Token.pv_eq, diptychref3_Token.pv_eq, pvL] at h94d
                    refine awp_region fun K kk hK => ?_
                    simp only [go_sem, h94a, h94d, h94e, hl0a, hl0b, hl0d, hl0w]
                    (repeat (refine And.intro ?_ ?_; focus (first | assumption | (try simp only [List.length_append, List.length_cons, List.length_nil] at *; omega))))
                    refine hK _ _ fun nx => ?_; clear hK K; try clear kk
                    (repeat (with_reducible first | refine then_n ?_ | refine then_r ?_ | refine then_e ?_ | refine block_n ?_ | refine block_r ?_ | refine exit_here ?_ | refine exit_on rfl ?_ | refine scope_n ?_ | refine scope_r ?_ | refine scope_e ?_ | refine cut_awp ?_))
                    refine awp_region fun K kk hK => ?_
                    simp only [go_sem, hl0a, hl0b, hl0d, hl0w]
                    refine hK _ _ fun nx => ?_; clear hK K; try clear kk
                    (repeat (with_reducible first | refine then_n ?_ | refine then_r ?_ | refine then_e ?_ | refine block_n ?_ | refine block_r ?_ | refine exit_here ?_ | refine exit_on rfl ?_ | refine scope_n ?_ | refine scope_r ?_ | refine scope_e ?_ | refine cut_awp ?_))
                    have ih' := ih (pre ++ [y_52]) (i_26 + 1) _ (by rw [hsplit]; simp) (by simp [hidx]) hh nx
                    refine cut_id ?_
                    first | exact ih' _ _ _ | (simp only [diptychlaw3_Cell.pv_eq, api_Attr.pv_eq, api_Node.pv_eq, token_Token.pv_eq, diptychref3_Token.pv_eq, pvL, List.map_cons, List.map_nil, List.map_append, rune1, h93e, h93d, h94e] at ih' ⊢; exact ih' _ _ _)
                  · rw [if_neg h88] at hh
                    replace h88 := Bool.eq_false_iff.mpr h88
                    refine awp_false (by first | exact congrArg PV.bool h88 | rfl) ?_
                    refine awp_skip ?_; (repeat (with_reducible first | refine then_n ?_ | refine then_r ?_ | refine then_e ?_ | refine block_n ?_ | refine block_r ?_ | refine exit_here ?_ | refine exit_on rfl ?_ | refine scope_n ?_ | refine scope_r ?_ | refine scope_e ?_ | refine cut_awp ?_))
                    obtain ⟨l_75, h95, hh⟩ := bind_ex hh
                    obtain ⟨h95a, h95c⟩ := app_some h95
                    have h95d := app_map (f := api_Node.pv) h95c
                    have h95e := app_len h95c
                    try simp only [List.length_cons, List.length_nil, Nat.zero_add, Nat.reduceAdd] at h95a h95e
                    try simp only [h95e] at h95a
                    try simp only [List.map_cons, List.map_nil, List.nil_append, List.append_nil, List.cons_append, List.singleton_append, rune1, diptychlaw3_Cell.pv_eq, api_Attr.pv_eq, api_Node.pv_eq, token_Token.pv_eq, diptychref3_Token.pv_eq, pvL] at h95d
                    refine awp_region fun K kk hK => ?_
                    simp only [go_sem, h95a, h95d, h95e, hl0a, hl0b, hl0d, hl0w]
                    (repeat (refine And.intro ?_ ?_; focus (first | assumption | (try simp only [List.length_append, List.length_cons, List.length_nil] at *; omega))))
                    refine hK _ _ fun nx => ?_; clear hK K; try clear kk
                    (repeat (with_reducible first | refine then_n ?_ | refine then_r ?_ | refine then_e ?_ | refine block_n ?_ | refine block_r ?_ | refine exit_here ?_ | refine exit_on rfl ?_ | refine scope_n ?_ | refine scope_r ?_ | refine scope_e ?_ | refine cut_awp ?_))
                    refine awp_region fun K kk hK => ?_
                    simp only [go_sem, hl0a, hl0b, hl0d, hl0w]
                    refine hK _ _ fun nx => ?_; clear hK K; try clear kk
                    (repeat (with_reducible first | refine then_n ?_ | refine then_r ?_ | refine then_e ?_ | refine block_n ?_ | refine block_r ?_ | refine exit_here ?_ | refine exit_on rfl ?_ | refine scope_n ?_ | refine scope_r ?_ | refine scope_e ?_ | refine cut_awp ?_))
                    have ih' := ih (pre ++ [y_52]) (i_26 + 1) _ (by rw [hsplit]; simp) (by simp [hidx]) hh nx
                    refine cut_id ?_
                    first | exact ih' _ _ _ | (simp only [diptychlaw3_Cell.pv_eq, api_Attr.pv_eq, api_Node.pv_eq, token_Token.pv_eq, diptychref3_Token.pv_eq, pvL, List.map_cons, List.map_nil, List.map_append, rune1, h95e] at ih' ⊢; exact ih' _ _ _)
                · intro i s h; exact h.elim
                · intro s h; exact h.elim
            · intro i s h; exact h.elim
            · intro s h; exact h.elim
          · intro i s h; exact h.elim
          · intro s h; exact h.elim
        · rw [if_neg h66] at hh
          replace h66 := Bool.eq_false_iff.mpr h66
          refine awp_false (by first | exact congrArg PV.bool h66 | rfl) ?_
          refine awp_exit ?_; (repeat (with_reducible first | refine then_n ?_ | refine then_r ?_ | refine then_e ?_ | refine block_n ?_ | refine block_r ?_ | refine exit_here ?_ | refine exit_on rfl ?_ | refine scope_n ?_ | refine scope_r ?_ | refine scope_e ?_ | refine cut_awp ?_))
          refine fragN ?_
          refine cut_id ?_
          refine ⟨_, (Option.some.inj hh), ?_⟩
          first | exact ⟨_, _, _, _, _, _, rfl⟩ | (simp only [diptychlaw3_Cell.pv_eq, api_Attr.pv_eq, api_Node.pv_eq, token_Token.pv_eq, diptychref3_Token.pv_eq, pvL, List.map_cons, List.map_nil, List.map_append, rune1]; exact ⟨_, _, _, _, _, _, rfl⟩)
    exact key l_1 [] _ _ rfl rfl f0 _ _ _ _
  · rintro s ⟨t, hless, out_78, rfl, i_76, v_77, nx, g3, g4, g5, rfl⟩
    try dsimp only at hh
    (repeat (with_reducible first | refine then_n ?_ | refine then_r ?_ | refine then_e ?_ | refine block_n ?_ | refine block_r ?_ | refine exit_here ?_ | refine exit_on rfl ?_ | refine scope_n ?_ | refine scope_r ?_ | refine scope_e ?_))
    first | (refine cut_less hless ?_; try refine cut_awp ?_) | refine frag_less hless ?_ | refine body_less hless ?_
    obtain ⟨join_79, h96, hh⟩ := bind_ex hh
    refine awp_first fun K kk hK => ?_
    simp only [go_sem]
    refine step_call2 (diptychref1_Join_ok _ _ h96).list (by try simp only [go_sem]; (repeat (first | exact WkL.refl _ | exact Wk.refl _ | exact Wk.nil _ | refine WkL.cons _ _ _ _ ?_ ?_ | exact WkL.nil | refine Wk.agg _ _ ?_ | refine Wk.tup _ _ ?_))) (by rfl) (by rfl) ?_
    simp only [go_sem]
    refine hK _ _ fun nx => ?_; clear hK K; try clear kk
    refine awp_ret ?_; (repeat (with_reducible first | refine then_n ?_ | refine then_r ?_ | refine then_e ?_ | refine block_n ?_ | refine block_r ?_ | refine exit_here ?_ | refine exit_on rfl ?_ | refine scope_n ?_ | refine scope_r ?_ | refine scope_e ?_ | refine cut_awp ?_))
    obtain hR := Option.some.inj hh
    subst hR
    refine ret_pure2 ?_ (by rfl)
    simp only [go_sem, rvsRes, rvRes, cellRes, tupOf, pur2, List.map_cons, List.map_append, List.head?_cons]
    (repeat (first | exact Wk.refl _ | exact WkL.refl _ | exact Wk.nil _ | refine Wk.agg _ _ ?_ | refine Wk.tup _ _ ?_ | refine WkL.cons _ _ _ _ ?_ ?_ | exact WkL.nil))
  · intro i s h; exact h.elim
  · intro s h; exact h.elim
theorem diptychlaw3_same_ok (a_1 : (List token_Token)) (b_2 : (List diptychref3_Token)) (R : Bool) (hh : diptychlaw3_same a_1 b_2 = some R) : PC Tryd.prog 19 [.list 3 (a_1.map token_Token.pv), .list 3 (b_2.map diptychref3_Token.pv)] (.bool R) := by
  rw [diptychlaw3_same] at hh
  refine start_diptychlaw3_same rfl ?_
  refine awp_first fun K kk hK => ?_
  simp only [go_sem]
  refine hK _ _ fun nx => ?_; clear hK K; try clear kk
  refine awp_seq ?_
  refine awp_first fun K kk hK => ?_
  simp only [go_sem]
  refine hK _ _ fun nx => ?_; clear hK K; try clear kk
  by_cases h1 : ((a_1.length : Int) != (b_2.length : Int)) = true
  · rw [if_pos h1] at hh
    refine awp_true (by first | exact congrArg PV.bool h1 | rfl) ?_
    refine awp_first fun K kk hK => ?_
    simp only [go_sem]
    refine hK _ _ fun nx => ?_; clear hK K; try clear kk
    refine awp_ret ?_; (repeat (with_reducible first | refine then_n ?_ | refine then_r ?_ | refine then_e ?_ | refine block_n ?_ | refine block_r ?_ | refine exit_here ?_ | refine exit_on rfl ?_ | refine scope_n ?_ | refine scope_r ?_ | refine scope_e ?_ | refine cut_awp ?_))
    obtain hR := Option.some.inj hh
    subst hR
    refine ret_pure2 ?_ (by rfl)
    simp only [go_sem, rvsRes, rvRes, cellRes, tupOf, pur2, List.map_cons, List.map_append, List.head?_cons]
    (repeat (first | exact Wk.refl _ | exact WkL.refl _ | exact Wk.nil _ | refine Wk.agg _ _ ?_ | refine Wk.tup _ _ ?_ | refine WkL.cons _ _ _ _ ?_ ?_ | exact WkL.nil))
  · rw [if_neg h1] at hh
    replace h1 := Bool.eq_false_iff.mpr h1
    refine awp_false (by first | exact congrArg PV.bool h1 | rfl) ?_
    refine awp_skip ?_; (repeat (with_reducible first | refine then_n ?_ | refine then_r ?_ | refine then_e ?_ | refine block_n ?_ | refine block_r ?_ | refine exit_here ?_ | refine exit_on rfl ?_ | refine scope_n ?_ | refine scope_r ?_ | refine scope_e ?_ | refine cut_awp ?_))
    refine awp_seq ?_
    refine awp_first fun K kk hK => ?_
    simp only [go_sem]
    refine hK _ _ fun nx => ?_; clear hK K; try clear kk
    obtain ⟨e0, f0, hh⟩ := bind_ex hh
    obtain ⟨hlen0, f0⟩ := chk_some f0
    refine awp_fragE (CutTo (fun s => .inr () = e0 ∧ ∃ (i_11 : Int) (v_12 : Bool) (nx : Nat), s = ⟨[(0, .list 3 (a_1.map token_Token.pv)), (1, .list 3 (b_2.map diptychref3_Token.pv)), (5, .int .i64 i_11), (14, .bool v_12)], [], nx⟩))
      (fun i s => False)
      (fun s => ∃ res_10, .inl res_10 = e0 ∧ bodyR Tryd.prog [.tmp 4] (.bool res_10) [] .ret s) ?_ ?_ ?_ ?_
    · refine awp_block ?_
      refine awp_loopJ fun I hI => ?_
      have key : ∀ (suf pre : List token_Token) (i_5 : Int), a_1 = pre ++ suf → i_5 = (pre.length : Int) → diptychlaw3_same_l0 b_2 suf i_5 = some e0 → ∀ (nx : Nat), I ⟨[(0, .list 3 (a_1.map token_Token.pv)), (1, .list 3 (b_2.map diptychref3_Token.pv)), (5, .int .i64 i_5)], [], nx⟩ := by
        intro suf
        induction suf with
        | nil =>
          intro pre i_5 hsplit hidx hh nx
          rw [diptychlaw3_same_l0] at hh
          refine hI _ ?_
          have h14 := walk_nil hsplit hidx
          refine awp_seq ?_
          refine awp_first fun K kk hK => ?_
          simp only [go_sem]
          refine hK _ _ fun nx => ?_; clear hK K; try clear kk
          refine awp_false (by first | exact congrArg PV.bool h14 | rfl) ?_
          refine awp_exit ?_; (repeat (with_reducible first | refine then_n ?_ | refine then_r ?_ | refine then_e ?_ | refine block_n ?_ | refine block_r ?_ | refine exit_here ?_ | refine exit_on rfl ?_ | refine scope_n ?_ | refine scope_r ?_ | refine scope_e ?_ | refine cut_awp ?_))
          refine fragN ?_
          refine cut_id ?_
          refine ⟨(Option.some.inj hh), ?_⟩
          first | exact ⟨_, _, _, rfl⟩ | (simp only [diptychlaw3_Cell.pv_eq, api_Attr.pv_eq, api_Node.pv_eq, token_Token.pv_eq, diptychref3_Token.pv_eq, pvL, List.map_cons, List.map_nil, List.map_append, rune1]; exact ⟨_, _, _, rfl⟩)
        | cons y_8 suf ih =>
          intro pre i_5 hsplit hidx hh nx
          rw [diptychlaw3_same_l0] at hh
          refine hI _ ?_
          obtain ⟨hl0a, hl0b, hl0d, hl0w, h14⟩ := walk_cons (f := token_Token.pv) hsplit hidx hlen0
          refine awp_seq ?_
          refine awp_first fun K kk hK => ?_
          simp only [go_sem]
          refine hK _ _ fun nx => ?_; clear hK K; try clear kk
          refine awp_true (by first | exact congrArg PV.bool h14 | rfl) ?_
          refine awp_skip ?_; (repeat (with_reducible first | refine then_n ?_ | refine then_r ?_ | refine then_e ?_ | refine block_n ?_ | refine block_r ?_ | refine exit_here ?_ | refine exit_on rfl ?_ | refine scope_n ?_ | refine scope_r ?_ | refine scope_e ?_ | refine cut_awp ?_))
          refine awp_seq ?_
          refine awp_block ?_
          obtain ⟨x_9, h15, hh⟩ := bind_ex hh
          obtain ⟨h15a, h15b, h15c⟩ := rd_some h15
          have h15d := rd_get (f := diptychref3_Token.pv) h15c
          have h15f := rd_more (f := diptychref3_Token.pv) h15c
          try simp only [Int.toNat_natCast, Int.reduceToNat] at h15d h15f
          by_cases h16 : (y_8.Kind != x_9.Kind) = true
          · rw [if_pos h16] at hh
            refine awp_first fun K kk hK => ?_
            simp only [go_sem, h15a, h15b, h15d, h15f.1, h15f.2, h16, h16, hl0a, hl0b, hl0d, hl0w]
            (repeat (refine And.intro ?_ ?_; focus (first | assumption | (try simp only [List.length_append, List.length_cons, List.length_nil] at *; omega))))
            refine hK _ _ fun nx => ?_; clear hK K; try clear kk
            refine awp_true rfl ?_
            refine awp_first fun K kk hK => ?_
            simp only [go_sem, hl0a, hl0b, hl0d, hl0w]
            refine hK _ _ fun nx => ?_; clear hK K; try clear kk
            refine awp_ret ?_; (repeat (with_reducible first | refine then_n ?_ | refine then_r ?_ | refine then_e ?_ | refine block_n ?_ | refine block_r ?_ | refine exit_here ?_ | refine exit_on rfl ?_ | refine scope_n ?_ | refine scope_r ?_ | refine scope_e ?_ | refine cut_awp ?_))
            refine fragR ⟨_, (Option.some.inj hh), ?_⟩
            refine ret_pure2 ?_ (by rfl)
            simp only [go_sem, rvsRes, rvRes, cellRes, tupOf, pur2, List.map_cons, List.map_append, List.head?_cons]
            (repeat (first | exact Wk.refl _ | exact WkL.refl _ | exact Wk.nil _ | refine Wk.agg _ _ ?_ | refine Wk.tup _ _ ?_ | refine WkL.cons _ _ _ _ ?_ ?_ | exact WkL.nil))
          · rw [if_neg h16] at hh
            replace h16 := Bool.eq_false_iff.mpr h16
            by_cases h17 : (!(y_8.Text == x_9.Text)) = true
            · rw [if_pos h17] at hh
              refine awp_first fun K kk hK => ?_
              simp only [go_sem, h15a, h15b, h15d, h15f.1, h15f.2, h16, h15a, h15b, h15d, h15f.1, h15f.2, h16, h17, h17, hl0a, hl0b, hl0d, hl0w]
              (repeat (refine And.intro ?_ ?_; focus (first | assumption | (try simp only [List.length_append, List.length_cons, List.length_nil] at *; omega))))
              refine hK _ _ fun nx => ?_; clear hK K; try clear kk
              refine awp_true rfl ?_
              refine awp_first fun K kk hK => ?_
              simp only [go_sem, hl0a, hl0b, hl0d, hl0w]
              refine hK _ _ fun nx => ?_; clear hK K; try clear kk
              refine awp_ret ?_; (repeat (with_reducible first | refine then_n ?_ | refine then_r ?_ | refine then_e ?_ | refine block_n ?_ | refine block_r ?_ | refine exit_here ?_ | refine exit_on rfl ?_ | refine scope_n ?_ | refine scope_r ?_ | refine scope_e ?_ | refine cut_awp ?_))
              refine fragR ⟨_, (Option.some.inj hh), ?_⟩
              refine ret_pure2 ?_ (by rfl)
              simp only [go_sem, rvsRes, rvRes, cellRes, tupOf, pur2, List.map_cons, List.map_append, List.head?_cons]
              (repeat (first | exact Wk.refl _ | exact WkL.refl _ | exact Wk.nil _ | refine Wk.agg _ _ ?_ | refine Wk.tup _ _ ?_ | refine WkL.cons _ _ _ _ ?_ ?_ | exact WkL.nil))
            · rw [if_neg h17] at hh
              replace h17 := Bool.eq_false_iff.mpr h17
              refine awp_first fun K kk hK => ?_
              simp only [go_sem, h15a, h15b, h15d, h15f.1, h15f.2, h16, h15a, h15b, h15d, h15f.1, h15f.2, h16, h17, h15a, h15b, h15d, h15f.1, h15f.2, h17, hl0a, hl0b, hl0d, hl0w]
              (repeat (refine And.intro ?_ ?_; focus (first | assumption | (try simp only [List.length_append, List.length_cons, List.length_nil] at *; omega))))
              refine hK _ _ fun nx => ?_; clear hK K; try clear kk
              by_cases h18 : (!(y_8.Head == x_9.Head)) = true
              · rw [if_pos h18] at hh
                refine awp_true (by first | exact congrArg PV.bool h18 | rfl) ?_
                refine awp_first fun K kk hK => ?_
                simp only [go_sem, hl0a, hl0b, hl0d, hl0w]
                refine hK _ _ fun nx => ?_; clear hK K; try clear kk
                refine awp_ret ?_; (repeat (with_reducible first | refine then_n ?_ | refine then_r ?_ | refine then_e ?_ | refine block_n ?_ | refine block_r ?_ | refine exit_here ?_ | refine exit_on rfl ?_ | refine scope_n ?_ | refine scope_r ?_ | refine scope_e ?_ | refine cut_awp ?_))
                refine fragR ⟨_, (Option.some.inj hh), ?_⟩
                refine ret_pure2 ?_ (by rfl)
                simp only [go_sem, rvsRes, rvRes, cellRes, tupOf, pur2, List.map_cons, List.map_append, List.head?_cons]
                (repeat (first | exact Wk.refl _ | exact WkL.refl _ | exact Wk.nil _ | refine Wk.agg _ _ ?_ | refine Wk.tup _ _ ?_ | refine WkL.cons _ _ _ _ ?_ ?_ | exact WkL.nil))
              · rw [if_neg h18] at hh
                replace h18 := Bool.eq_false_iff.mpr h18
                refine awp_false (by first | exact congrArg PV.bool h18 | rfl) ?_
                refine awp_skip ?_; (repeat (with_reducible first | refine then_n ?_ | refine then_r ?_ | refine then_e ?_ | refine block_n ?_ | refine block_r ?_ | refine exit_here ?_ | refine exit_on rfl ?_ | refine scope_n ?_ | refine scope_r ?_ | refine scope_e ?_ | refine cut_awp ?_))
                refine awp_region fun K kk hK => ?_
                simp only [go_sem, hl0a, hl0b, hl0d, hl0w]
                refine hK _ _ fun nx => ?_; clear hK K; try clear kk
                (repeat (with_reducible first | refine then_n ?_ | refine then_r ?_ | refine then_e ?_ | refine block_n ?_ | refine block_r ?_ | refine exit_here ?_ | refine exit_on rfl ?_ | refine scope_n ?_ | refine scope_r ?_ | refine scope_e ?_ | refine cut_awp ?_))
                have ih' := ih (pre ++ [y_8]) (i_5 + 1) (by rw [hsplit]; simp) (by simp [hidx]) hh nx
                refine cut_id ?_
                first | exact ih' | (simp only [diptychlaw3_Cell.pv_eq, api_Attr.pv_eq, api_Node.pv_eq, token_Token.pv_eq, diptychref3_Token.pv_eq, pvL, List.map_cons, List.map_nil, List.map_append, rune1] at ih' ⊢; exact ih')
      exact key a_1 [] _ rfl rfl f0 _
    · rintro s ⟨t, hless, rfl, i_11, v_12, nx, rfl⟩
      try dsimp only at hh
      (repeat (with_reducible first | refine then_n ?_ | refine then_r ?_ | refine then_e ?_ | refine block_n ?_ | refine block_r ?_ | refine exit_here ?_ | refine exit_on rfl ?_ | refine scope_n ?_ | refine scope_r ?_ | refine scope_e ?_))
      first | (refine cut_less hless ?_; try refine cut_awp ?_) | refine frag_less hless ?_ | refine body_less hless ?_
      refine awp_first fun K kk hK => ?_
      simp only [go_sem]
      refine hK _ _ fun nx => ?_; clear hK K; try clear kk
      refine awp_ret ?_; (repeat (with_reducible first | refine then_n ?_ | refine then_r ?_ | refine then_e ?_ | refine block_n ?_ | refine block_r ?_ | refine exit_here ?_ | refine exit_on rfl ?_ | refine scope_n ?_ | refine scope_r ?_ | refine scope_e ?_ | refine cut_awp ?_))
      obtain hR := Option.some.inj hh
      subst hR
      refine ret_pure2 ?_ (by rfl)
      simp only [go_sem, rvsRes, rvRes, cellRes, tupOf, pur2, List.map_cons, List.map_append, List.head?_cons]
      (repeat (first | exact Wk.refl _ | exact WkL.refl _ | exact Wk.nil _ | refine Wk.agg _ _ ?_ | refine Wk.tup _ _ ?_ | refine WkL.cons _ _ _ _ ?_ ?_ | exact WkL.nil))
    · intro i s h; exact h.elim
    · rintro s ⟨res_10, rfl, hb⟩
      try dsimp only at hh
      obtain hR := Option.some.inj hh
      subst hR
      (repeat (with_reducible first | refine then_n ?_ | refine then_r ?_ | refine then_e ?_ | refine block_n ?_ | refine block_r ?_ | refine exit_here ?_ | refine exit_on rfl ?_ | refine scope_n ?_ | refine scope_r ?_ | refine scope_e ?_ | refine cut_awp ?_))
      exact hb
theorem diptychref2_Quote_ok (s_1 : Str) (R : Str) (hh : diptychref2_Quote s_1 = some R) : PC Tryd.prog 85 [.str s_1] (.str R) := by
  rw [diptychref2_Quote] at hh
  refine start_diptychref2_Quote rfl ?_
  refine awp_first fun K kk hK => ?_
  simp only [go_sem]
  refine hK _ _ fun nx => ?_; clear hK K; try clear kk
  refine awp_first fun K kk hK => ?_
  simp only [go_sem]
  refine hK _ _ fun nx => ?_; clear hK K; try clear kk
  refine awp_seq ?_
  refine awp_first fun K kk hK => ?_
  simp only [go_sem]
  refine hK _ _ fun nx => ?_; clear hK K; try clear kk
  obtain ⟨e0, f0, hh⟩ := bind_ex hh
  refine awp_fragE (CutTo (fun s => ∃ out_10, out_10 = e0 ∧ ∃ (i_11 : Int) (v_12 : Bool) (nx : Nat), s = ⟨[(0, .str s_1), (3, .str out_10), (4, .int .i64 i_11), (8, .bool v_12)], [], nx⟩))
    (fun i s => False)
    (fun s => False) ?_ ?_ ?_ ?_
  · refine awp_block ?_
    refine awp_loopJ fun I hI => ?_
    obtain ⟨k, f0⟩ := lim_some f0
    have key : ∀ (k : Nat) (out_5 : Str) (i_6 : Int), diptychref2_Quote_l0 s_1 k out_5 i_6 = some e0 → ∀ (nx : Nat), I ⟨[(0, .str s_1), (3, .str out_5), (4, .int .i64 i_6)], [], nx⟩ := by
      intro k
      induction k with
      | zero => intro out_5 i_6 hh; rw [diptychref2_Quote_l0] at hh; cases hh
      | succ k ih =>
        intro out_5 i_6 hh nx
        rw [diptychref2_Quote_l0] at hh
        refine hI _ ?_
        refine awp_seq ?_
        refine awp_first fun K kk hK => ?_
        simp only [go_sem]
        refine hK _ _ fun nx => ?_; clear hK K; try clear kk
        by_cases h14 : (decide (i_6 < (s_1.length : Int))) = true
        · rw [if_pos h14] at hh
          refine awp_true (by first | exact congrArg PV.bool h14 | rfl) ?_
          refine awp_skip ?_; (repeat (with_reducible first | refine then_n ?_ | refine then_r ?_ | refine then_e ?_ | refine block_n ?_ | refine block_r ?_ | refine exit_here ?_ | refine exit_on rfl ?_ | refine scope_n ?_ | refine scope_r ?_ | refine scope_e ?_ | refine cut_awp ?_))
          refine awp_seq ?_
          refine awp_block ?_
          refine awp_seq ?_
          obtain ⟨h15, hh⟩ := chk_some hh
          by_cases h16 : (((s_1.getD i_6.toNat 0).toNat : Int) == (34 : Int)) = true
          · rw [if_pos h16] at hh
            refine awp_first fun K kk hK => ?_
            simp only [go_sem, h15.1, h15.2, h16, h16]
            (repeat (refine And.intro ?_ ?_; focus (first | assumption | (try simp only [List.length_append, List.length_cons, List.length_nil] at *; omega))))
            refine hK _ _ fun nx => ?_; clear hK K; try clear kk
            refine awp_true rfl ?_
            obtain ⟨h17, hh⟩ := chk_some hh
            refine awp_region fun K kk hK => ?_
            simp only [go_sem, h17]
            (repeat (refine And.intro ?_ ?_; focus (first | assumption | (try simp only [List.length_append, List.length_cons, List.length_nil] at *; omega))))
            refine hK _ _ fun nx => ?_; clear hK K; try clear kk
            (repeat (with_reducible first | refine then_n ?_ | refine then_r ?_ | refine then_e ?_ | refine block_n ?_ | refine block_r ?_ | refine exit_here ?_ | refine exit_on rfl ?_ | refine scope_n ?_ | refine scope_r ?_ | refine scope_e ?_ | refine cut_awp ?_))
            obtain ⟨s_7, h18, hh⟩ := bind_ex hh
            obtain ⟨h18a, h18c⟩ := sl_some h18
            have h18g := sl_le h18a
            have h18d := id h18c
            try simp only [Int.toNat_natCast, Int.reduceToNat] at h18d
            obtain ⟨h19, hh⟩ := chk_some hh
            refine awp_region fun K kk hK => ?_
            simp only [go_sem, h18a.1, h18a.2.1, h18a.2.2, h18d, h18g, h19]
            (repeat (refine And.intro ?_ ?_; focus (first | assumption | (try simp only [List.length_append, List.length_cons, List.length_nil] at *; omega))))
            refine hK _ _ fun nx => ?_; clear hK K; try clear kk
            (repeat (with_reducible first | refine then_n ?_ | refine then_r ?_ | refine then_e ?_ | refine block_n ?_ | refine block_r ?_ | refine exit_here ?_ | refine exit_on rfl ?_ | refine scope_n ?_ | refine scope_r ?_ | refine scope_e ?_ | refine cut_awp ?_))
            refine awp_region fun K kk hK => ?_
            simp only [go_sem]
            refine hK _ _ fun nx => ?_; clear hK K; try clear kk
            (repeat (with_reducible first | refine then_n ?_ | refine then_r ?_ | refine then_e ?_ | refine block_n ?_ | refine block_r ?_ | refine exit_here ?_ | refine exit_on rfl ?_ | refine scope_n ?_ | refine scope_r ?_ | refine scope_e ?_ | refine cut_awp ?_))
            have ih' := ih _ _ hh nx
            refine cut_id ?_
            first | exact ih' | (simp only [diptychlaw3_Cell.pv_eq, api_Attr.pv_eq, api_Node.pv_eq, token_Token.pv_eq, diptychref3_Token.pv_eq, pvL, List.map_cons, List.map_nil, List.map_append, rune1] at ih' ⊢; exact ih')
          · rw [if_neg h16] at hh
            replace h16 := Bool.eq_false_iff.mpr h16
            obtain ⟨h20, hh⟩ := chk_some hh
            refine awp_first fun K kk hK => ?_
            simp only [go_sem, h15.1, h15.2, h16, h20.1, h20.2, h16]
            (repeat (refine And.intro ?_ ?_; focus (first | assumption | (try simp only [List.length_append, List.length_cons, List.length_nil] at *; omega))))
            refine hK _ _ fun nx => ?_; clear hK K; try clear kk
            by_cases h21 : (((s_1.getD i_6.toNat 0).toNat : Int) == (92 : Int)) = true
            · rw [if_pos h21] at hh
              refine awp_true (by first | exact congrArg PV.bool h21 | rfl) ?_
              obtain ⟨h22, hh⟩ := chk_some hh
              refine awp_region fun K kk hK => ?_
              simp only [go_sem, h22]
              (repeat (refine And.intro ?_ ?_; focus (first | assumption | (try simp only [List.length_append, List.length_cons, List.length_nil] at *; omega))))
              refine hK _ _ fun nx => ?_; clear hK K; try clear kk
              (repeat (with_reducible first | refine then_n ?_ | refine then_r ?_ | refine then_e ?_ | refine block_n ?_ | refine block_r ?_ | refine exit_here ?_ | refine exit_on rfl ?_ | refine scope_n ?_ | refine scope_r ?_ | refine scope_e ?_ | refine cut_awp ?_))
              obtain ⟨s_8, h23, hh⟩ := bind_ex hh
              obtain ⟨h23a, h23c⟩ := sl_some h23
              have h23g := sl_le h23a
              have h23d := id h23c
              try simp only [Int.toNat_natCast, Int.reduceToNat] at h23d
              obtain ⟨h24, hh⟩ := chk_some hh
              refine awp_region fun K kk hK => ?_
              simp only [go_sem, h23a.1, h23a.2.1, h23a.2.2, h23d, h23g, h24]
              (repeat (refine And.intro ?_ ?_; focus (first | assumption | (try simp only [List.length_append, List.length_cons, List.length_nil] at *; omega))))
              refine hK _ _ fun nx => ?_; clear hK K; try clear kk
              (repeat (with_reducible first | refine then_n ?_ | refine then_r ?_ | refine then_e ?_ | refine block_n ?_ | refine block_r ?_ | refine exit_here ?_ | refine exit_on rfl ?_ | refine scope_n ?_ | refine scope_r ?_ | refine scope_e ?_ | refine cut_awp ?_))
              refine awp_region fun K kk hK => ?_
              simp only [go_sem]
              refine hK _ _ fun nx => ?_; clear hK K; try clear kk
              (repeat (with_reducible first | refine then_n ?_ | refine then_r ?_ | refine then_e ?_ | refine block_n ?_ | refine block_r ?_ | refine exit_here ?_ | refine exit_on rfl ?_ | refine scope_n ?_ | refine scope_r ?_ | refine scope_e ?_ | refine cut_awp ?_))
              have ih' := ih _ _ hh nx
              refine cut_id ?_
              first | exact ih' | (simp only [diptychlaw3_Cell.pv_eq, api_Attr.pv_eq, api_Node.pv_eq, token_Token.pv_eq, diptychref3_Token.pv_eq, pvL, List.map_cons, List.map_nil, List.map_append, rune1] at ih' ⊢; exact ih')
            · rw [if_neg h21] at hh
              replace h21 := Bool.eq_false_iff.mpr h21
              refine awp_false (by first | exact congrArg PV.bool h21 | rfl) ?_
              refine awp_skip ?_; (repeat (with_reducible first | refine then_n ?_ | refine then_r ?_ | refine then_e ?_ | refine block_n ?_ | refine block_r ?_ | refine exit_here ?_ | refine exit_on rfl ?_ | refine scope_n ?_ | refine scope_r ?_ | refine scope_e ?_ | refine cut_awp ?_))
              obtain ⟨s_9, h25, hh⟩ := bind_ex hh
              obtain ⟨h25a, h25c⟩ := sl_some h25
              have h25g := sl_le h25a
              have h25d := id h25c
              try simp only [Int.toNat_natCast, Int.reduceToNat] at h25d
              obtain ⟨h26, hh⟩ := chk_some hh
              refine awp_region fun K kk hK => ?_
              simp only [go_sem, h25a.1, h25a.2.1, h25a.2.2, h25d, h25g, h26]
              (repeat (refine And.intro ?_ ?_; focus (first | assumption | (try simp only [List.length_append, List.length_cons, List.length_nil] at *; omega))))
              refine hK _ _ fun nx => ?_; clear hK K; try clear kk
              (repeat (with_reducible first | refine then_n ?_ | refine then_r ?_ | refine then_e ?_ | refine block_n ?_ | refine block_r ?_ | refine exit_here ?_ | refine exit_on rfl ?_ | refine scope_n ?_ | refine scope_r ?_ | refine scope_e ?_ | refine cut_awp ?_))
              refine awp_region fun K kk hK => ?_
              simp only [go_sem]
              refine hK _ _ fun nx => ?_; clear hK K; try clear kk
              (repeat (with_reducible first | refine then_n ?_ | refine then_r ?_ | refine then_e ?_ | refine block_n ?_ | refine block_r ?_ | refine exit_here ?_ | refine exit_on rfl ?_ | refine scope_n ?_ | refine scope_r ?_ | refine scope_e ?_ | refine cut_awp ?_))
              have ih' := ih _ _ hh nx
              refine cut_id ?_
              first | exact ih' | (simp only [diptychlaw3_Cell.pv_eq, api_Attr.pv_eq, api_Node.pv_eq, token_Token.pv_eq, diptychref3_Token.pv_eq, pvL, List.map_cons, List.map_nil, List.map_append, rune1] at ih' ⊢; exact ih')
        · rw [if_neg h14] at hh
          replace h14 := Bool.eq_false_iff.mpr h14
          refine awp_false (by first | exact congrArg PV.bool h14 | rfl) ?_
          refine awp_exit ?_; (repeat (with_reducible first | refine then_n ?_ | refine then_r ?_ | refine then_e ?_ | refine block_n ?_ | refine block_r ?_ | refine exit_here ?_ | refine exit_on rfl ?_ | refine scope_n ?_ | refine scope_r ?_ | refine scope_e ?_ | refine cut_awp ?_))
          refine fragN ?_
          refine cut_id ?_
          refine ⟨_, (Option.some.inj hh), ?_⟩
          first | exact ⟨_, _, _, rfl⟩ | (simp only [diptychlaw3_Cell.pv_eq, api_Attr.pv_eq, api_Node.pv_eq, token_Token.pv_eq, diptychref3_Token.pv_eq, pvL, List.map_cons, List.map_nil, List.map_append, rune1]; exact ⟨_, _, _, rfl⟩)
    exact key _ _ _ f0 _
  · rintro s ⟨t, hless, out_10, rfl, i_11, v_12, nx, rfl⟩
    try dsimp only at hh
    (repeat (with_reducible first | refine then_n ?_ | refine then_r ?_ | refine then_e ?_ | refine block_n ?_ | refine block_r ?_ | refine exit_here ?_ | refine exit_on rfl ?_ | refine scope_n ?_ | refine scope_r ?_ | refine scope_e ?_))
    first | (refine cut_less hless ?_; try refine cut_awp ?_) | refine frag_less hless ?_ | refine body_less hless ?_
    obtain ⟨h27, hh⟩ := chk_some hh
    refine awp_first fun K kk hK => ?_
    simp only [go_sem, h27]
    (repeat (refine And.intro ?_ ?_; focus (first | assumption | (try simp only [List.length_append, List.length_cons, List.length_nil] at *; omega))))
    refine hK _ _ fun nx => ?_; clear hK K; try clear kk
    refine awp_ret ?_; (repeat (with_reducible first | refine then_n ?_ | refine then_r ?_ | refine then_e ?_ | refine block_n ?_ | refine block_r ?_ | refine exit_here ?_ | refine exit_on rfl ?_ | refine scope_n ?_ | refine scope_r ?_ | refine scope_e ?_ | refine cut_awp ?_))
    obtain hR := Option.some.inj hh
    subst hR
    refine ret_pure2 ?_ (by rfl)
    simp only [go_sem, rvsRes, rvRes, cellRes, tupOf, pur2, List.map_cons, List.map_append, List.head?_cons]
    (repeat (first | exact Wk.refl _ | exact WkL.refl _ | exact Wk.nil _ | refine Wk.agg _ _ ?_ | refine Wk.tup _ _ ?_ | refine WkL.cons _ _ _ _ ?_ ?_ | exact WkL.nil))
  · intro i s h; exact h.elim
  · intro s h; exact h.elim
theorem diptychref2_Head_ok (n_1 : api_Node) (R : Str) (hh : diptychref2_Head n_1 = some R) : PC Tryd.prog 56 [.agg [.str n_1.Kind, .str n_1.Text, .list 1 (n_1.Marks.map PV.str), .list 2 (n_1.Attrs.map api_Attr.pv), .list 5 (n_1.Kids.map api_Node.pv)]] (.str R) := by
  rw [diptychref2_Head] at hh
  refine start_diptychref2_Head rfl ?_
  refine awp_first fun K kk hK => ?_
  simp only [go_sem]
  refine hK _ _ fun nx => ?_; clear hK K; try clear kk
  refine awp_first fun K kk hK => ?_
  simp only [go_sem]
  refine hK _ _ fun nx => ?_; clear hK K; try clear kk
  refine awp_seq ?_
  refine awp_first fun K kk hK => ?_
  simp only [go_sem]
  refine hK _ _ fun nx => ?_; clear hK K; try clear kk
  by_cases h1 : (n_1.Kind == ([116, 101, 120, 116] : Str)) = true
  · rw [if_pos h1] at hh
    refine awp_true (by first | exact congrArg PV.bool h1 | rfl) ?_
    refine awp_seq ?_
    refine awp_first fun K kk hK => ?_
    simp only [go_sem]
    refine hK _ _ fun nx => ?_; clear hK K; try clear kk
    obtain ⟨e0, f0, hh⟩ := bind_ex hh
    obtain ⟨hlen0, f0⟩ := chk_some f0
    refine awp_fragE (CutTo (fun s => ∃ s_9, s_9 = e0 ∧ ∃ (i_10 : Int) (v_11 : Bool) (nx : Nat) (g1 : Nat), s = ⟨[(1, .box 1 g1 0), (3, .str s_9), (4, .int .i64 i_10), (13, .bool v_11)], [(1, g1, .var 27 [.str n_1.Kind, .str n_1.Text, .list 1 (n_1.Marks.map PV.str), .list 2 (n_1.Attrs.map api_Attr.pv), .list 5 (n_1.Kids.map api_Node.pv)])], nx⟩))
      (fun i s => False)
      (fun s => False) ?_ ?_ ?_ ?_
    · refine awp_block ?_
      refine awp_loopJ fun I hI => ?_
      have key : ∀ (suf pre : List Str) (i_5 : Int) (s_4 : Str), n_1.Marks = pre ++ suf → i_5 = (pre.length : Int) → diptychref2_Head_l0 suf i_5 s_4 = some e0 → ∀ (nx : Nat) (g1 : Nat), I ⟨[(1, .box 1 g1 0), (3, .str s_4), (4, .int .i64 i_5)], [(1, g1, .var 27 [.str n_1.Kind, .str n_1.Text, .list 1 (n_1.Marks.map PV.str), .list 2 (n_1.Attrs.map api_Attr.pv), .list 5 (n_1.Kids.map api_Node.pv)])], nx⟩ := by
        intro suf
        induction suf with
        | nil =>
          intro pre i_5 s_4 hsplit hidx hh nx g1
          rw [diptychref2_Head_l0] at hh
          refine hI _ ?_
          have h16 := walk_nil hsplit hidx
          refine awp_seq ?_
          refine awp_first fun K kk hK => ?_
          simp only [go_sem]
          refine hK _ _ fun nx => ?_; clear hK K; try clear kk
          refine awp_false (by first | exact congrArg PV.bool h16 | rfl) ?_
          refine awp_exit ?_; (repeat (with_reducible first | refine then_n ?_ | refine then_r ?_ | refine then_e ?_ | refine block_n ?_ | refine block_r ?_ | refine exit_here ?_ | refine exit_on rfl ?_ | refine scope_n ?_ | refine scope_r ?_ | refine scope_e ?_ | refine cut_awp ?_))
          refine fragN ?_
          refine cut_id ?_
          refine ⟨_, (Option.some.inj hh), ?_⟩
          first | exact ⟨_, _, _, _, rfl⟩ | (simp only [diptychlaw3_Cell.pv_eq, api_Attr.pv_eq, api_Node.pv_eq, token_Token.pv_eq, diptychref3_Token.pv_eq, pvL, List.map_cons, List.map_nil, List.map_append, rune1]; exact ⟨_, _, _, _, rfl⟩)
        | cons y_8 suf ih =>
          intro pre i_5 s_4 hsplit hidx hh nx g1
          rw [diptychref2_Head_l0] at hh
          refine hI _ ?_
          obtain ⟨hl0a, hl0b, hl0d, hl0w, h16⟩ := walk_cons (f := PV.str) hsplit hidx hlen0
          refine awp_seq ?_
          refine awp_first fun K kk hK => ?_
          simp only [go_sem]
          refine hK _ _ fun nx => ?_; clear hK K; try clear kk
          refine awp_true (by first | exact congrArg PV.bool h16 | rfl) ?_
          refine awp_skip ?_; (repeat (with_reducible first | refine then_n ?_ | refine then_r ?_ | refine then_e ?_ | refine block_n ?_ | refine block_r ?_ | refine exit_here ?_ | refine exit_on rfl ?_ | refine scope_n ?_ | refine scope_r ?_ | refine scope_e ?_ | refine cut_awp ?_))
          refine awp_seq ?_
          refine awp_block ?_
          refine awp_seq ?_
          refine awp_first fun K kk hK => ?_
          simp only [go_sem, hl0a, hl0b, hl0d, hl0w]
          refine hK _ _ fun nx => ?_; clear hK K; try clear kk
          by_cases h17 : (decide (i_5 > (0 : Int))) = true
          · rw [if_pos h17] at hh
            refine awp_true (by first | exact congrArg PV.bool h17 | rfl) ?_
            obtain ⟨h18, hh⟩ := chk_some hh
            refine awp_region fun K kk hK => ?_
            simp only [go_sem, h18, hl0a, hl0b, hl0d, hl0w]
            (repeat (refine And.intro ?_ ?_; focus (first | assumption | (try simp only [List.length_append, List.length_cons, List.length_nil] at *; omega))))
            refine hK _ _ fun nx => ?_; clear hK K; try clear kk
            (repeat (with_reducible first | refine then_n ?_ | refine then_r ?_ | refine then_e ?_ | refine block_n ?_ | refine block_r ?_ | refine exit_here ?_ | refine exit_on rfl ?_ | refine scope_n ?_ | refine scope_r ?_ | refine scope_e ?_ | refine cut_awp ?_))
            obtain ⟨h19, hh⟩ := chk_some hh
            refine awp_region fun K kk hK => ?_
            simp only [go_sem, h19, hl0a, hl0b, hl0d, hl0w]
            (repeat (refine And.intro ?_ ?_; focus (first | assumption | (try simp only [List.length_append, List.length_cons, List.length_nil] at *; omega))))
            refine hK _ _ fun nx => ?_; clear hK K; try clear kk
            (repeat (with_reducible first | refine then_n ?_ | refine then_r ?_ | refine then_e ?_ | refine block_n ?_ | refine block_r ?_ | refine exit_here ?_ | refine exit_on rfl ?_ | refine scope_n ?_ | refine scope_r ?_ | refine scope_e ?_ | refine cut_awp ?_))
            refine awp_region fun K kk hK => ?_
            simp only [go_sem, hl0a, hl0b, hl0d, hl0w]
            refine hK _ _ fun nx => ?_; clear hK K; try clear kk
            (repeat (with_reducible first | refine then_n ?_ | refine then_r ?_ | refine then_e ?_ | refine block_n ?_ | refine block_r ?_ | refine exit_here ?_ | refine exit_on rfl ?_ | refine scope_n ?_ | refine scope_r ?_ | refine scope_e ?_ | refine cut_awp ?_))
            have ih' := ih (pre ++ [y_8]) (i_5 + 1) _ (by rw [hsplit]; simp) (by simp [hidx]) hh nx
            refine cut_id ?_
            first | exact ih' _ | (simp only [diptychlaw3_Cell.pv_eq, api_Attr.pv_eq, api_Node.pv_eq, token_Token.pv_eq, diptychref3_Token.pv_eq, pvL, List.map_cons, List.map_nil, List.map_append, rune1] at ih' ⊢; exact ih' _)
          · rw [if_neg h17] at hh
            replace h17 := Bool.eq_false_iff.mpr h17
            refine awp_false (by first | exact congrArg PV.bool h17 | rfl) ?_
            refine awp_skip ?_; (repeat (with_reducible first | refine then_n ?_ | refine then_r ?_ | refine then_e ?_ | refine block_n ?_ | refine block_r ?_ | refine exit_here ?_ | refine exit_on rfl ?_ | refine scope_n ?_ | refine scope_r ?_ | refine scope_e ?_ | refine cut_awp ?_))
            obtain ⟨h20, hh⟩ := chk_some hh
            refine awp_region fun K kk hK => ?_
            simp only [go_sem, h20, hl0a, hl0b, hl0d, hl0w]
            (repeat (refine And.intro ?_ ?_; focus (first | assumption | (try simp only [List.length_append, List.length_cons, List.length_nil] at *; omega))))
            refine hK _ _ fun nx => ?_; clear hK K; try clear kk
            (repeat (with_reducible first | refine then_n ?_ | refine then_r ?_ | refine then_e ?_ | refine block_n ?_ | refine block_r ?_ | refine exit_here ?_ | refine exit_on rfl ?_ | refine scope_n ?_ | refine scope_r ?_ | refine scope_e ?_ | refine cut_awp ?_))
            refine awp_region fun K kk hK => ?_
            simp only [go_sem, hl0a, hl0b, hl0d, hl0w]
            refine hK _ _ fun nx => ?_; clear hK K; try clear kk
            (repeat (with_reducible first | refine then_n ?_ | refine then_r ?_ | refine then_e ?_ | refine block_n ?_ | refine block_r ?_ | refine exit_here ?_ | refine exit_on rfl ?_ | refine scope_n ?_ | refine scope_r ?_ | refine scope_e ?_ | refine cut_awp ?_))
            have ih' := ih (pre ++ [y_8]) (i_5 + 1) _ (by rw [hsplit]; simp) (by simp [hidx]) hh nx
            refine cut_id ?_
            first | exact ih' _ | (simp only [diptychlaw3_Cell.pv_eq, api_Attr.pv_eq, api_Node.pv_eq, token_Token.pv_eq, diptychref3_Token.pv_eq, pvL, List.map_cons, List.map_nil, List.map_append, rune1] at ih' ⊢; exact ih' _)
      exact key n_1.Marks [] _ _ rfl rfl f0 _ _
    · rintro s ⟨t, hless, s_9, rfl, i_10, v_11, nx, g1, rfl⟩
      try dsimp only at hh
      (repeat (with_reducible first | refine then_n ?_ | refine then_r ?_ | refine then_e ?_ | refine block_n ?_ | refine block_r ?_ | refine exit_here ?_ | refine exit_on rfl ?_ | refine scope_n ?_ | refine scope_r ?_ | refine scope_e ?_))
      first | (refine cut_less hless ?_; try refine cut_awp ?_) | refine frag_less hless ?_ | refine body_less hless ?_
      refine awp_seq ?_
      refine awp_first fun K kk hK => ?_
      simp only [go_sem]
      refine hK _ _ fun nx => ?_; clear hK K; try clear kk
      by_cases h21 : (decide ((n_1.Marks.length : Int) > (0 : Int))) = true
      · rw [if_pos h21] at hh
        refine awp_true (by first | exact congrArg PV.bool h21 | rfl) ?_
        obtain ⟨h22, hh⟩ := chk_some hh
        obtain ⟨h23, hh⟩ := chk_some hh
        refine awp_region fun K kk hK => ?_
        simp only [go_sem, h22, h23]
        (repeat (refine And.intro ?_ ?_; focus (first | assumption | (try simp only [List.length_append, List.length_cons, List.length_nil] at *; omega))))
        refine hK _ _ fun nx => ?_; clear hK K; try clear kk
        (repeat (with_reducible first | refine then_n ?_ | refine then_r ?_ | refine then_e ?_ | refine block_n ?_ | refine block_r ?_ | refine exit_here ?_ | refine exit_on rfl ?_ | refine scope_n ?_ | refine scope_r ?_ | refine scope_e ?_ | refine cut_awp ?_))
        refine awp_first fun K kk hK => ?_
        simp only [go_sem]
        refine hK _ _ fun nx => ?_; clear hK K; try clear kk
        refine awp_ret ?_; (repeat (with_reducible first | refine then_n ?_ | refine then_r ?_ | refine then_e ?_ | refine block_n ?_ | refine block_r ?_ | refine exit_here ?_ | refine exit_on rfl ?_ | refine scope_n ?_ | refine scope_r ?_ | refine scope_e ?_ | refine cut_awp ?_))
        obtain hR := Option.some.inj hh
        subst hR
        refine ret_pure2 ?_ (by rfl)
        simp only [go_sem, rvsRes, rvRes, cellRes, tupOf, pur2, List.map_cons, List.map_append, List.head?_cons]
        (repeat (first | exact Wk.refl _ | exact WkL.refl _ | exact Wk.nil _ | refine Wk.agg _ _ ?_ | refine Wk.tup _ _ ?_ | refine WkL.cons _ _ _ _ ?_ ?_ | exact WkL.nil))
      · rw [if_neg h21] at hh
        replace h21 := Bool.eq_false_iff.mpr h21
        refine awp_false (by first | exact congrArg PV.bool h21 | rfl) ?_
        refine awp_skip ?_; (repeat (with_reducible first | refine then_n ?_ | refine then_r ?_ | refine then_e ?_ | refine block_n ?_ | refine block_r ?_ | refine exit_here ?_ | refine exit_on rfl ?_ | refine scope_n ?_ | refine scope_r ?_ | refine scope_e ?_ | refine cut_awp ?_))
        refine awp_first fun K kk hK => ?_
        simp only [go_sem]
        refine hK _ _ fun nx => ?_; clear hK K; try clear kk
        refine awp_ret ?_; (repeat (with_reducible first | refine then_n ?_ | refine then_r ?_ | refine then_e ?_ | refine block_n ?_ | refine block_r ?_ | refine exit_here ?_ | refine exit_on rfl ?_ | refine scope_n ?_ | refine scope_r ?_ | refine scope_e ?_ | refine cut_awp ?_))
        obtain hR := Option.some.inj hh
        subst hR
        refine ret_pure2 ?_ (by rfl)
        simp only [go_sem, rvsRes, rvRes, cellRes, tupOf, pur2, List.map_cons, List.map_append, List.head?_cons]
        (repeat (first | exact Wk.refl _ | exact WkL.refl _ | exact Wk.nil _ | refine Wk.agg _ _ ?_ | refine Wk.tup _ _ ?_ | refine WkL.cons _ _ _ _ ?_ ?_ | exact WkL.nil))
    · intro i s h; exact h.elim
    · intro s h; exact h.elim
  · rw [if_neg h1] at hh
    replace h1 := Bool.eq_false_iff.mpr h1
    refine awp_false (by first | exact congrArg PV.bool h1 | rfl) ?_
    refine awp_skip ?_; (repeat (with_reducible first | refine then_n ?_ | refine then_r ?_ | refine then_e ?_ | refine block_n ?_ | refine block_r ?_ | refine exit_here ?_ | refine exit_on rfl ?_ | refine scope_n ?_ | refine scope_r ?_ | refine scope_e ?_ | refine cut_awp ?_))
    refine awp_seq ?_
    refine awp_first fun K kk hK => ?_
    simp only [go_sem]
    refine hK _ _ fun nx => ?_; clear hK K; try clear kk
    obtain ⟨e1, f1, hh⟩ := bind_ex hh
    obtain ⟨hlen1, f1⟩ := chk_some f1
    refine awp_fragE (CutTo (fun s => ∃ s_25, s_25 = e1 ∧ ∃ (i_26 : Int) (v_27 : Bool) (nx : Nat) (g1 : Nat), s = ⟨[(1, .box 1 g1 0), (3, .str s_25), (5, .int .i64 i_26), (39, .bool v_27)], [(1, g1, .var 27 [.str n_1.Kind, .str n_1.Text, .list 1 (n_1.Marks.map PV.str), .list 2 (n_1.Attrs.map api_Attr.pv), .list 5 (n_1.Kids.map api_Node.pv)])], nx⟩))
      (fun i s => False)
      (fun s => False) ?_ ?_ ?_ ?_
    · refine awp_block ?_
      refine awp_loopJ fun I hI => ?_
      have key : ∀ (suf pre : List api_Attr) (i_17 : Int) (s_16 : Str), n_1.Attrs = pre ++ suf → i_17 = (pre.length : Int) → diptychref2_Head_l1 suf i_17 s_16 = some e1 → ∀ (nx : Nat) (g1 : Nat), I ⟨[(1, .box 1 g1 0), (3, .str s_16), (5, .int .i64 i_17)], [(1, g1, .var 27 [.str n_1.Kind, .str n_1.Text, .list 1 (n_1.Marks.map PV.str), .list 2 (n_1.Attrs.map api_Attr.pv), .list 5 (n_1.Kids.map api_Node.pv)])], nx⟩ := by
        intro suf
        induction suf with
        | nil =>
          intro pre i_17 s_16 hsplit hidx hh nx g1
          rw [diptychref2_Head_l1] at hh
          refine hI _ ?_
          have h50 := walk_nil hsplit hidx
          refine awp_seq ?_
          refine awp_first fun K kk hK => ?_
          simp only [go_sem]
          refine hK _ _ fun nx => ?_; clear hK K; try clear kk
          refine awp_false (by first | exact congrArg PV.bool h50 | rfl) ?_
          refine awp_exit ?_; (repeat (with_reducible first | refine then_n ?_ | refine then_r ?_ | refine then_e ?_ | refine block_n ?_ | refine block_r ?_ | refine exit_here ?_ | refine exit_on rfl ?_ | refine scope_n ?_ | refine scope_r ?_ | refine scope_e ?_ | refine cut_awp ?_))
          refine fragN ?_
          refine cut_id ?_
          refine ⟨_, (Option.some.inj hh), ?_⟩
          first | exact ⟨_, _, _, _, rfl⟩ | (simp only [diptychlaw3_Cell.pv_eq, api_Attr.pv_eq, api_Node.pv_eq, token_Token.pv_eq, diptychref3_Token.pv_eq, pvL, List.map_cons, List.map_nil, List.map_append, rune1]; exact ⟨_, _, _, _, rfl⟩)
        | cons y_22 suf ih =>
          intro pre i_17 s_16 hsplit hidx hh nx g1
          rw [diptychref2_Head_l1] at hh
          refine hI _ ?_
          obtain ⟨hl1a, hl1b, hl1d, hl1w, h50⟩ := walk_cons (f := api_Attr.pv) hsplit hidx hlen1
          refine awp_seq ?_
          refine awp_first fun K kk hK => ?_
          simp only [go_sem]
          refine hK _ _ fun nx => ?_; clear hK K; try clear kk
          refine awp_true (by first | exact congrArg PV.bool h50 | rfl) ?_
          refine awp_skip ?_; (repeat (with_reducible first | refine then_n ?_ | refine then_r ?_ | refine then_e ?_ | refine block_n ?_ | refine block_r ?_ | refine exit_here ?_ | refine exit_on rfl ?_ | refine scope_n ?_ | refine scope_r ?_ | refine scope_e ?_ | refine cut_awp ?_))
          refine awp_seq ?_
          refine awp_block ?_
          refine awp_seq ?_
          refine awp_first fun K kk hK => ?_
          simp only [go_sem, hl1a, hl1b, hl1d, hl1w]
          refine hK _ _ fun nx => ?_; clear hK K; try clear kk
          by_cases h51 : (decide (i_17 > (0 : Int))) = true
          · rw [if_pos h51] at hh
            refine awp_true (by first | exact congrArg PV.bool h51 | rfl) ?_
            obtain ⟨h52, hh⟩ := chk_some hh
            refine awp_region fun K kk hK => ?_
            simp only [go_sem, h52, hl1a, hl1b, hl1d, hl1w]
            (repeat (refine And.intro ?_ ?_; focus (first | assumption | (try simp only [List.length_append, List.length_cons, List.length_nil] at *; omega))))
            refine hK _ _ fun nx => ?_; clear hK K; try clear kk
            (repeat (with_reducible first | refine then_n ?_ | refine then_r ?_ | refine then_e ?_ | refine block_n ?_ | refine block_r ?_ | refine exit_here ?_ | refine exit_on rfl ?_ | refine scope_n ?_ | refine scope_r ?_ | refine scope_e ?_ | refine cut_awp ?_))
            obtain ⟨h53, hh⟩ := chk_some hh
            obtain ⟨h54, hh⟩ := chk_some hh
            obtain ⟨quote_23, h55, hh⟩ := bind_ex hh
            obtain ⟨h56, hh⟩ := chk_some hh
            refine awp_region fun K kk hK => ?_
            simp only [go_sem, h53, h54, h56, hl1a, hl1b, hl1d, hl1w]
            (repeat (refine And.intro ?_ ?_; focus (first | assumption | (try simp only [List.length_append, List.length_cons, List.length_nil] at *; omega))))
            refine step_call2 (diptychref2_Quote_ok _ _ h55) (by try simp only [go_sem, h53, h54, h56, hl1a, hl1b, hl1d, hl1w]; (repeat (first | exact WkL.refl _ | exact Wk.refl _ | exact Wk.nil _ | refine WkL.cons _ _ _ _ ?_ ?_ | exact WkL.nil | refine Wk.agg _ _ ?_ | refine Wk.tup _ _ ?_))) (by rfl) (by rfl) ?_
            simp only [go_sem, h53, h54, h56, hl1a, hl1b, hl1d, hl1w]
            (repeat (refine And.intro ?_ ?_; focus (first | assumption | (try simp only [List.length_append, List.length_cons, List.length_nil] at *; omega))))
            refine hK _ _ fun nx => ?_; clear hK K; try clear kk
            (repeat (with_reducible first | refine then_n ?_ | refine then_r ?_ | refine then_e ?_ | refine block_n ?_ | refine block_r ?_ | refine exit_here ?_ | refine exit_on rfl ?_ | refine scope_n ?_ | refine scope_r ?_ | refine scope_e ?_ | refine cut_awp ?_))
            refine awp_region fun K kk hK => ?_
            simp only [go_sem, hl1a, hl1b, hl1d, hl1w]
            refine hK _ _ fun nx => ?_; clear hK K; try clear kk
            (repeat (with_reducible first | refine then_n ?_ | refine then_r ?_ | refine then_e ?_ | refine block_n ?_ | refine block_r ?_ | refine exit_here ?_ | refine exit_on rfl ?_ | refine scope_n ?_ | refine scope_r ?_ | refine scope_e ?_ | refine cut_awp ?_))
            have ih' := ih (pre ++ [y_22]) (i_17 + 1) _ (by rw [hsplit]; simp) (by simp [hidx]) hh nx
            refine cut_id ?_
            first | exact ih' _ | (simp only [diptychlaw3_Cell.pv_eq, api_Attr.pv_eq, api_Node.pv_eq, token_Token.pv_eq, diptychref3_Token.pv_eq, pvL, List.map_cons, List.map_nil, List.map_append, rune1] at ih' ⊢; exact ih' _)
          · rw [if_neg h51] at hh
            replace h51 := Bool.eq_false_iff.mpr h51
            refine awp_false (by first | exact congrArg PV.bool h51 | rfl) ?_
            refine awp_skip ?_; (repeat (with_reducible first | refine then_n ?_ | refine then_r ?_ | refine then_e ?_ | refine block_n ?_ | refine block_r ?_ | refine exit_here ?_ | refine exit_on rfl ?_ | refine scope_n ?_ | refine scope_r ?_ | refine scope_e ?_ | refine cut_awp ?_))
            obtain ⟨h57, hh⟩ := chk_some hh
            obtain ⟨h58, hh⟩ := chk_some hh
            obtain ⟨quote_24, h59, hh⟩ := bind_ex hh
            obtain ⟨h60, hh⟩ := chk_some hh
            refine awp_region fun K kk hK => ?_
            simp only [go_sem, h57, h58, h60, hl1a, hl1b, hl1d, hl1w]
            (repeat (refine And.intro ?_ ?_; focus (first | assumption | (try simp only [List.length_append, List.length_cons, List.length_nil] at *; omega))))
            refine step_call2 (diptychref2_Quote_ok _ _ h59) (by try simp only [go_sem, h57, h58, h60, hl1a, hl1b, hl1d, hl1w]; (repeat (first | exact WkL.refl _ | exact Wk.refl _ | exact Wk.nil _ | refine WkL.cons _ _ _ _ ?_ ?_ | exact WkL.nil | refine Wk.agg _ _ ?_ | refine Wk.tup _ _ ?_))) (by rfl) (by rfl) ?_
            simp only [go_sem, h57, h58, h60, hl1a, hl1b, hl1d, hl1w]
            (repeat (refine And.intro ?_ ?_; focus (first | assumption | (try simp only [List.length_append, List.length_cons, List.length_nil] at *; omega))))
            refine hK _ _ fun nx => ?_; clear hK K; try clear kk
            (repeat (with_reducible first | refine then_n ?_ | refine then_r ?_ | refine then_e ?_ | refine block_n ?_ | refine block_r ?_ | refine exit_here ?_ | refine exit_on rfl ?_ | refine scope_n ?_ | refine scope_r ?_ | refine scope_e ?_ | refine cut_awp ?_))
            refine awp_region fun K kk hK => ?_
            simp only [go_sem, hl1a, hl1b, hl1d, hl1w]
            refine hK _ _ fun nx => ?_; clear hK K; try clear kk
            (repeat (with_reducible first | refine then_n ?_ | refine then_r ?_ | refine then_e ?_ | refine block_n ?_ | refine block_r ?_ | refine exit_here ?_ | refine exit_on rfl ?_ | refine scope_n ?_ | refine scope_r ?_ | refine scope_e ?_ | refine cut_awp ?_))
            have ih' := ih (pre ++ [y_22]) (i_17 + 1) _ (by rw [hsplit]; simp) (by simp [hidx]) hh nx
            refine cut_id ?_
            first | exact ih' _ | (simp only [diptychlaw3_Cell.pv_eq, api_Attr.pv_eq, api_Node.pv_eq, token_Token.pv_eq, diptychref3_Token.pv_eq, pvL, List.map_cons, List.map_nil, List.map_append, rune1] at ih' ⊢; exact ih' _)
      exact key n_1.Attrs [] _ _ rfl rfl f1 _ _
    · rintro s ⟨t, hless, s_25, rfl, i_26, v_27, nx, g1, rfl⟩
      try dsimp only at hh
      (repeat (with_reducible first | refine then_n ?_ | refine then_r ?_ | refine then_e ?_ | refine block_n ?_ | refine block_r ?_ | refine exit_here ?_ | refine exit_on rfl ?_ | refine scope_n ?_ | refine scope_r ?_ | refine scope_e ?_))
      first | (refine cut_less hless ?_; try refine cut_awp ?_) | refine frag_less hless ?_ | refine body_less hless ?_
      refine awp_seq ?_
      refine awp_first fun K kk hK => ?_
      simp only [go_sem]
      refine hK _ _ fun nx => ?_; clear hK K; try clear kk
      by_cases h61 : (decide ((n_1.Attrs.length : Int) > (0 : Int))) = true
      · rw [if_pos h61] at hh
        refine awp_true (by first | exact congrArg PV.bool h61 | rfl) ?_
        obtain ⟨h62, hh⟩ := chk_some hh
        obtain ⟨h63, hh⟩ := chk_some hh
        refine awp_region fun K kk hK => ?_
        simp only [go_sem, h62, h63]
        (repeat (refine And.intro ?_ ?_; focus (first | assumption | (try simp only [List.length_append, List.length_cons, List.length_nil] at *; omega))))
        refine hK _ _ fun nx => ?_; clear hK K; try clear kk
        (repeat (with_reducible first | refine then_n ?_ | refine then_r ?_ | refine then_e ?_ | refine block_n ?_ | refine block_r ?_ | refine exit_here ?_ | refine exit_on rfl ?_ | refine scope_n ?_ | refine scope_r ?_ | refine scope_e ?_ | refine cut_awp ?_))
        obtain ⟨h64, hh⟩ := chk_some hh
        refine awp_first fun K kk hK => ?_
        simp only [go_sem, h64]
        (repeat (refine And.intro ?_ ?_; focus (first | assumption | (try simp only [List.length_append, List.length_cons, List.length_nil] at *; omega))))
        refine hK _ _ fun nx => ?_; clear hK K; try clear kk
        refine awp_ret ?_; (repeat (with_reducible first | refine then_n ?_ | refine then_r ?_ | refine then_e ?_ | refine block_n ?_ | refine block_r ?_ | refine exit_here ?_ | refine exit_on rfl ?_ | refine scope_n ?_ | refine scope_r ?_ | refine scope_e ?_ | refine cut_awp ?_))
        obtain hR := Option.some.inj hh
        subst hR
        refine ret_pure2 ?_ (by rfl)
        simp only [go_sem, rvsRes, rvRes, cellRes, tupOf, pur2, List.map_cons, List.map_append, List.head?_cons]
        (repeat (first | exact Wk.refl _ | exact WkL.refl _ | exact Wk.nil _ | refine Wk.agg _ _ ?_ | refine Wk.tup _ _ ?_ | refine WkL.cons _ _ _ _ ?_ ?_ | exact WkL.nil))
      · rw [if_neg h61] at hh
        replace h61 := Bool.eq_false_iff.mpr h61
        refine awp_false (by first | exact congrArg PV.bool h61 | rfl) ?_
        refine awp_skip ?_; (repeat (with_reducible first | refine then_n ?_ | refine then_r ?_ | refine then_e ?_ | refine block_n ?_ | refine block_r ?_ | refine exit_here ?_ | refine exit_on rfl ?_ | refine scope_n ?_ | refine scope_r ?_ | refine scope_e ?_ | refine cut_awp ?_))
        obtain ⟨h65, hh⟩ := chk_some hh
        refine awp_first fun K kk hK => ?_
        simp only [go_sem, h65]
        (repeat (refine And.intro ?_ ?_; focus (first | assumption | (try simp only [List.length_append, List.length_cons, List.length_nil] at *; omega))))
        refine hK _ _ fun nx => ?_; clear hK K; try clear kk
        refine awp_ret ?_; (repeat (with_reducible first | refine then_n ?_ | refine then_r ?_ | refine then_e ?_ | refine block_n ?_ | refine block_r ?_ | refine exit_here ?_ | refine exit_on rfl ?_ | refine scope_n ?_ | refine scope_r ?_ | refine scope_e ?_ | refine cut_awp ?_))
        obtain hR := Option.some.inj hh
        subst hR
        refine ret_pure2 ?_ (by rfl)
        simp only [go_sem, rvsRes, rvRes, cellRes, tupOf, pur2, List.map_cons, List.map_append, List.head?_cons]
        (repeat (first | exact Wk.refl _ | exact WkL.refl _ | exact Wk.nil _ | refine Wk.agg _ _ ?_ | refine Wk.tup _ _ ?_ | refine WkL.cons _ _ _ _ ?_ ?_ | exact WkL.nil))
    · intro i s h; exact h.elim
    · intro s h; exact h.elim
theorem diptychref3_Of_grp : ∀ kr : Nat, (∀ (l_1 : (List api_Node)) (R : (List diptychref3_Token)), diptychref3_Of_k kr l_1 = some R → PC Tryd.prog 20 [.list 5 (l_1.map api_Node.pv)] (.own 3 (R.map diptychref3_Token.pv))) := by
  intro kr
  induction kr with
  | zero => exact (by intro l_1 R hh; rw [diptychref3_Of_k] at hh; cases hh)
  | succ kr ih =>
    have ih_diptychref3_Of := ih
    clear ih
    intro l_1 R hh
    rw [diptychref3_Of_k] at hh
    refine start_diptychref3_Of rfl ?_
    refine awp_first fun K kk hK => ?_
    simp only [go_sem]
    refine hK _ _ fun nx => ?_; clear hK K; try clear kk
    refine awp_first fun K kk hK => ?_
    simp only [go_sem]
    refine hK _ _ fun nx => ?_; clear hK K; try clear kk
    refine awp_seq ?_
    refine awp_first fun K kk hK => ?_
    simp only [go_sem]
    refine hK _ _ fun nx => ?_; clear hK K; try clear kk
    obtain ⟨e0, f0, hh⟩ := bind_ex hh
    obtain ⟨hlen0, f0⟩ := chk_some f0
    refine awp_fragE (CutTo (fun s => ∃ out_69, out_69 = e0 ∧ ∃ (i_67 : Int) (v_68 : Bool) (nx : Nat) (g3 : Nat), s = ⟨[(0, .list 5 (l_1.map api_Node.pv)), (3, .row 3 g3 out_69.length), (4, .int .i64 i_67), (11, .bool v_68)], [(3, g3, .row false 3 (out_69.map diptychref3_Token.pv))], nx⟩))
      (fun i s => False)
      (fun s => False) ?_ ?_ ?_ ?_
    · refine awp_block ?_
      refine awp_loopJ fun I hI => ?_
      have key : ∀ (suf pre : List api_Node) (i_23 : Int) (out_24 : (List diptychref3_Token)), l_1 = pre ++ suf → i_23 = (pre.length : Int) → diptychref3_Of_l0 (diptychref3_Of_k kr) suf i_23 out_24 = some e0 → ∀ (nx : Nat) (g3 : Nat), I ⟨[(0, .list 5 (l_1.map api_Node.pv)), (3, .row 3 g3 out_24.length), (4, .int .i64 i_23)], [(3, g3, .row false 3 (out_24.map diptychref3_Token.pv))], nx⟩ := by
        intro suf
        induction suf with
        | nil =>
          intro pre i_23 out_24 hsplit hidx hh nx g3
          rw [diptychref3_Of_l0] at hh
          refine hI _ ?_
          have h41 := walk_nil hsplit hidx
          refine awp_seq ?_
          refine awp_first fun K kk hK => ?_
          simp only [go_sem]
          refine hK _ _ fun nx => ?_; clear hK K; try clear kk
          refine awp_false (by first | exact congrArg PV.bool h41 | rfl) ?_
          refine awp_exit ?_; (repeat (with_reducible first | refine then_n ?_ | refine then_r ?_ | refine then_e ?_ | refine block_n ?_ | refine block_r ?_ | refine exit_here ?_ | refine exit_on rfl ?_ | refine scope_n ?_ | refine scope_r ?_ | refine scope_e ?_ | refine cut_awp ?_))
          refine fragN ?_
          refine cut_id ?_
          refine ⟨_, (Option.some.inj hh), ?_⟩
          first | exact ⟨_, _, _, _, rfl⟩ | (simp only [diptychlaw3_Cell.pv_eq, api_Attr.pv_eq, api_Node.pv_eq, token_Token.pv_eq, diptychref3_Token.pv_eq, pvL, List.map_cons, List.map_nil, List.map_append, rune1]; exact ⟨_, _, _, _, rfl⟩)
        | cons y_46 suf ih =>
          intro pre i_23 out_24 hsplit hidx hh nx g3
          rw [diptychref3_Of_l0] at hh
          refine hI _ ?_
          obtain ⟨hl0a, hl0b, hl0d, hl0w, h41⟩ := walk_cons (f := api_Node.pv) hsplit hidx hlen0
          refine awp_seq ?_
          refine awp_first fun K kk hK => ?_
          simp only [go_sem]
          refine hK _ _ fun nx => ?_; clear hK K; try clear kk
          refine awp_true (by first | exact congrArg PV.bool h41 | rfl) ?_
          refine awp_skip ?_; (repeat (with_reducible first | refine then_n ?_ | refine then_r ?_ | refine then_e ?_ | refine block_n ?_ | refine block_r ?_ | refine exit_here ?_ | refine exit_on rfl ?_ | refine scope_n ?_ | refine scope_r ?_ | refine scope_e ?_ | refine cut_awp ?_))
          refine awp_seq ?_
          refine awp_block ?_
          refine awp_first fun K kk hK => ?_
          simp only [go_sem, hl0a, hl0b, hl0d, hl0w]
          refine hK _ _ fun nx => ?_; clear hK K; try clear kk
          refine awp_seq ?_
          refine awp_first fun K kk hK => ?_
          simp only [go_sem, hl0a, hl0b, hl0d, hl0w]
          refine hK _ _ fun nx => ?_; clear hK K; try clear kk
          by_cases h42 : (y_46.Kind == ([116, 101, 120, 116] : Str)) = true
          · rw [if_pos h42] at hh
            refine awp_true (by first | exact congrArg PV.bool h42 | rfl) ?_
            refine awp_first fun K kk hK => ?_
            simp only [go_sem, hl0a, hl0b, hl0d, hl0w]
            refine hK _ _ fun nx => ?_; clear hK K; try clear kk
            refine awp_seq ?_
            refine awp_first fun K kk hK => ?_
            simp only [go_sem, hl0a, hl0b, hl0d, hl0w]
            refine hK _ _ fun nx => ?_; clear hK K; try clear kk
            obtain ⟨e3, f3, hh⟩ := bind_ex hh
            obtain ⟨hlen3, f3⟩ := chk_some f3
            refine awp_fragE (CutTo (fun s => ∃ out_61, out_61 = e3 ∧ ∃ (k_59 : Int) (v_60 : Bool) (nx : Nat) (g3 : Nat) (g5 : Nat), s = ⟨[(0, .list 5 (l_1.map api_Node.pv)), (3, .row 3 g3 out_61.length), (4, .int .i64 i_23), (5, .box 5 g5 0), (6, .list 1 ((runes y_46.Text).map (PV.int .i32))), (7, .int .i64 k_59), (27, .bool v_60)], [(3, g3, .row false 3 (out_61.map diptychref3_Token.pv)), (5, g5, .var 27 [.str y_46.Kind, .str y_46.Text, .list 1 (y_46.Marks.map PV.str), .list 2 (y_46.Attrs.map api_Attr.pv), .list 5 (y_46.Kids.map api_Node.pv)])], nx⟩))
              (fun i s => False)
              (fun s => False) ?_ ?_ ?_ ?_
            · refine awp_block ?_
              refine awp_loopJ fun I hI => ?_
              have key : ∀ (suf pre : List Int) (k_50 : Int) (out_51 : (List diptychref3_Token)), (runes y_46.Text) = pre ++ suf → k_50 = (pre.length : Int) → diptychref3_Of_l3 y_46 suf k_50 out_51 = some e3 → ∀ (nx : Nat) (g3 : Nat) (g5 : Nat), I ⟨[(0, .list 5 (l_1.map api_Node.pv)), (3, .row 3 g3 out_51.length), (4, .int .i64 i_23), (5, .box 5 g5 0), (6, .list 1 ((runes y_46.Text).map (PV.int .i32))), (7, .int .i64 k_50)], [(3, g3, .row false 3 (out_51.map diptychref3_Token.pv)), (5, g5, .var 27 [.str y_46.Kind, .str y_46.Text, .list 1 (y_46.Marks.map PV.str), .list 2 (y_46.Attrs.map api_Attr.pv), .list 5 (y_46.Kids.map api_Node.pv)])], nx⟩ := by
                intro suf
                induction suf with
                | nil =>
                  intro pre k_50 out_51 hsplit hidx hh nx g3 g5
                  rw [diptychref3_Of_l3] at hh
                  refine hI _ ?_
                  have h51 := walk_nil hsplit hidx
                  refine awp_seq ?_
                  refine awp_first fun K kk hK => ?_
                  simp only [go_sem, hl0a, hl0b, hl0d, hl0w]
                  refine hK _ _ fun nx => ?_; clear hK K; try clear kk
                  refine awp_false (by first | exact congrArg PV.bool h51 | rfl) ?_
                  refine awp_exit ?_; (repeat (with_reducible first | refine then_n ?_ | refine then_r ?_ | refine then_e ?_ | refine block_n ?_ | refine block_r ?_ | refine exit_here ?_ | refine exit_on rfl ?_ | refine scope_n ?_ | refine scope_r ?_ | refine scope_e ?_ | refine cut_awp ?_))
                  refine fragN ?_
                  refine cut_id ?_
                  refine ⟨_, (Option.some.inj hh), ?_⟩
                  first | exact ⟨_, _, _, _, _, rfl⟩ | (simp only [diptychlaw3_Cell.pv_eq, api_Attr.pv_eq, api_Node.pv_eq, token_Token.pv_eq, diptychref3_Token.pv_eq, pvL, List.map_cons, List.map_nil, List.map_append, rune1]; exact ⟨_, _, _, _, _, rfl⟩)
                | cons y_55 suf ih =>
                  intro pre k_50 out_51 hsplit hidx hh nx g3 g5
                  rw [diptychref3_Of_l3] at hh
                  refine hI _ ?_
                  obtain ⟨hl3a, hl3b, hl3d, hl3w, h51⟩ := walk_cons (f := (PV.int .i32)) hsplit hidx hlen3
                  refine awp_seq ?_
                  refine awp_first fun K kk hK => ?_
                  simp only [go_sem, hl0a, hl0b, hl0d, hl0w]
                  refine hK _ _ fun nx => ?_; clear hK K; try clear kk
                  refine awp_true (by first | exact congrArg PV.bool h51 | rfl) ?_
                  refine awp_skip ?_; (repeat (with_reducible first | refine then_n ?_ | refine then_r ?_ | refine then_e ?_ | refine block_n ?_ | refine block_r ?_ | refine exit_here ?_ | refine exit_on rfl ?_ | refine scope_n ?_ | refine scope_r ?_ | refine scope_e ?_ | refine cut_awp ?_))
                  refine awp_seq ?_
                  refine awp_block ?_
                  obtain ⟨s_56, h52, hh⟩ := bind_ex hh
                  obtain ⟨h52a, h52c⟩ := sl_some h52
                  have h52g := sl_le h52a
                  have h52d := sl_map (f := (PV.int .i32)) h52c
                  try simp only [Int.toNat_natCast, Int.reduceToNat, List.map_cons, List.map_nil, diptychlaw3_Cell.pv_eq, api_Attr.pv_eq, api_Node.pv_eq, token_Token.pv_eq, diptychref3_Token.pv_eq, pvL] at h52d
                  obtain ⟨head_57, h53, hh⟩ := bind_ex hh
                  obtain ⟨l_58, h54, hh⟩ := bind_ex hh
                  obtain ⟨h54a, h54c⟩ := app_some h54
                  have h54d := app_map (f := diptychref3_Token.pv) h54c
                  have h54e := app_len h54c
                  try simp only [List.length_cons, List.length_nil, Nat.zero_add, Nat.reduceAdd] at h54a h54e
                  try simp only [h54e] at h54a
                  try simp only [List.map_cons, List.map_nil, List.nil_append, List.append_nil, List.cons_append, List.singleton_append, rune1, diptychlaw3_Cell.pv_eq, api_Attr.pv_eq, api_Node.pv_eq, token_Token.pv_eq, diptychref3_Token.pv_eq, pvL] at h54d
                  refine awp_region fun K kk hK => ?_
                  simp only [go_sem, h52a.1, h52a.2.1, h52a.2.2, h52d, h52g, h54a, h54d, h54e, hl0a, hl0b, hl0d, hl0w, hl3a, hl3b, hl3d, hl3w]
                  (repeat (refine And.intro ?_ ?_; focus (first | assumption | (try simp only [List.length_append, List.length_cons, List.length_nil] at *; omega))))
                  refine step_call2 (diptychref2_Head_ok _ _ h53) (by try simp only [go_sem, h52a.1, h52a.2.1, h52a.2.2, h52d, h52g, h54a, h54d, h54e, hl0a, hl0b, hl0d, hl0w, hl3a, hl3b, hl3d, hl3w]; (repeat (first | exact WkL.refl _ | exact Wk.refl _ | exact Wk.nil _ | refine WkL.cons _ _ _ _ ?_ ?_ | exact WkL.nil | refine Wk.agg _ _ ?_ | refine Wk.tup _ _ ?_))) (by rfl) (by rfl) ?_
                  simp only [go_sem, h52a.1, h52a.2.1, h52a.2.2, h52d, h52g, h54a, h54d, h54e, hl0a, hl0b, hl0d, hl0w, hl3a, hl3b, hl3d, hl3w]
                  (repeat (refine And.intro ?_ ?_; focus (first | assumption | (try simp only [List.length_append, List.length_cons, List.length_nil] at *; omega))))
                  refine hK _ _ fun nx => ?_; clear hK K; try clear kk
                  (repeat (with_reducible first | refine then_n ?_ | refine then_r ?_ | refine then_e ?_ | refine block_n ?_ | refine block_r ?_ | refine exit_here ?_ | refine exit_on rfl ?_ | refine scope_n ?_ | refine scope_r ?_ | refine scope_e ?_ | refine cut_awp ?_))
                  refine awp_region fun K kk hK => ?_
                  simp only [go_sem, hl0a, hl0b, hl0d, hl0w, hl3a, hl3b, hl3d, hl3w]
                  refine hK _ _ fun nx => ?_; clear hK K; try clear kk
                  (repeat (with_reducible first | refine then_n ?_ | refine then_r ?_ | refine then_e ?_ | refine block_n ?_ | refine block_r ?_ | refine exit_here ?_ | refine exit_on rfl ?_ | refine scope_n ?_ | refine scope_r ?_ | refine scope_e ?_ | refine cut_awp ?_))
                  have ih' := ih (pre ++ [y_55]) (k_50 + 1) _ (by rw [hsplit]; simp) (by simp [hidx]) hh nx
                  refine cut_id ?_
                  first | exact ih' _ _ | (simp only [diptychlaw3_Cell.pv_eq, api_Attr.pv_eq, api_Node.pv_eq, token_Token.pv_eq, diptychref3_Token.pv_eq, pvL, List.map_cons, List.map_nil, List.map_append, rune1, h54e] at ih' ⊢; exact ih' _ _)
              exact key (runes y_46.Text) [] _ _ rfl rfl f3 _ _ _
            · rintro s ⟨t, hless, out_61, rfl, k_59, v_60, nx, g3, g5, rfl⟩
              try dsimp only at hh
              (repeat (with_reducible first | refine then_n ?_ | refine then_r ?_ | refine then_e ?_ | refine block_n ?_ | refine block_r ?_ | refine exit_here ?_ | refine exit_on rfl ?_ | refine scope_n ?_ | refine scope_r ?_ | refine scope_e ?_))
              first | (refine cut_less hless ?_; try refine cut_awp ?_) | refine frag_less hless ?_ | refine body_less hless ?_
              refine awp_exit ?_; (repeat (with_reducible first | refine then_n ?_ | refine then_r ?_ | refine then_e ?_ | refine block_n ?_ | refine block_r ?_ | refine exit_here ?_ | refine exit_on rfl ?_ | refine scope_n ?_ | refine scope_r ?_ | refine scope_e ?_ | refine cut_awp ?_))
              refine awp_region fun K kk hK => ?_
              simp only [go_sem, hl0a, hl0b, hl0d, hl0w]
              refine hK _ _ fun nx => ?_; clear hK K; try clear kk
              (repeat (with_reducible first | refine then_n ?_ | refine then_r ?_ | refine then_e ?_ | refine block_n ?_ | refine block_r ?_ | refine exit_here ?_ | refine exit_on rfl ?_ | refine scope_n ?_ | refine scope_r ?_ | refine scope_e ?_ | refine cut_awp ?_))
              have ih' := ih (pre ++ [y_46]) (i_23 + 1) _ (by rw [hsplit]; simp) (by simp [hidx]) hh nx
              refine cut_id ?_
              first | exact ih' _ | (simp only [diptychlaw3_Cell.pv_eq, api_Attr.pv_eq, api_Node.pv_eq, token_Token.pv_eq, diptychref3_Token.pv_eq, pvL, List.map_cons, List.map_nil, List.map_append, rune1] at ih' ⊢; exact ih' _)
            · intro i s h; exact h.elim
            · intro s h; exact h.elim
          · rw [if_neg h42] at hh
            replace h42 := Bool.eq_false_iff.mpr h42
            refine awp_false (by first | exact congrArg PV.bool h42 | rfl) ?_
            refine awp_skip ?_; (repeat (with_reducible first | refine then_n ?_ | refine then_r ?_ | refine then_e ?_ | refine block_n ?_ | refine block_r ?_ | refine exit_here ?_ | refine exit_on rfl ?_ | refine scope_n ?_ | refine scope_r ?_ | refine scope_e ?_ | refine cut_awp ?_))
            obtain ⟨head_62, h55, hh⟩ := bind_ex hh
            obtain ⟨l_63, h56, hh⟩ := bind_ex hh
            obtain ⟨h56a, h56c⟩ := app_some h56
            have h56d := app_map (f := diptychref3_Token.pv) h56c
            have h56e := app_len h56c
            try simp only [List.length_cons, List.length_nil, Nat.zero_add, Nat.reduceAdd] at h56a h56e
            try simp only [h56e] at h56a
            try simp only [List.map_cons, List.map_nil, List.nil_append, List.append_nil, List.cons_append, List.singleton_append, rune1, diptychlaw3_Cell.pv_eq, api_Attr.pv_eq, api_Node.pv_eq, token_Token.pv_eq, diptychref3_Token.pv_eq, pvL] at h56d
            refine awp_first fun K kk hK => ?_
            simp only [go_sem, h56a, h56d, h56e, hl0a, hl0b, hl0d, hl0w]
            (repeat (refine And.intro ?_ ?_; focus (first | assumption | (try simp only [List.length_append, List.length_cons, List.length_nil] at *; omega))))
            refine step_call2 (diptychref2_Head_ok _ _ h55) (by try simp only [go_sem, h56a, h56d, h56e, hl0a, hl0b, hl0d, hl0w]; (repeat (first | exact WkL.refl _ | exact Wk.refl _ | exact Wk.nil _ | refine WkL.cons _ _ _ _ ?_ ?_ | exact WkL.nil | refine Wk.agg _ _ ?_ | refine Wk.tup _ _ ?_))) (by rfl) (by rfl) ?_
            simp only [go_sem, h56a, h56d, h56e, hl0a, hl0b, hl0d, hl0w]
            (repeat (refine And.intro ?_ ?_; focus (first | assumption | (try simp only [List.length_append, List.length_cons, List.length_nil] at *; omega))))
            refine hK _ _ fun nx => ?_; clear hK K; try clear kk
            obtain ⟨of_64, h57, hh⟩ := bind_ex hh
            obtain ⟨l_65, h58, hh⟩ := bind_ex hh
            obtain ⟨h58a, h58c⟩ := app_some h58
            have h58d := app_map (f := diptychref3_Token.pv) h58c
            have h58e := app_len h58c
            try simp only [List.length_cons, List.length_nil, Nat.zero_add, Nat.reduceAdd] at h58a h58e
            try simp only [h58e] at h58a
            try simp only [List.map_cons, List.map_nil, List.nil_append, List.append_nil, List.cons_append, List.singleton_append, rune1, diptychlaw3_Cell.pv_eq, api_Attr.pv_eq, api_Node.pv_eq, token_Token.pv_eq, diptychref3_Token.pv_eq, pvL] at h58d
            refine awp_first fun K kk hK => ?_
            simp only [go_sem, h58a, h58d, h58e, hl0a, hl0b, hl0d, hl0w]
            (repeat (refine And.intro ?_ ?_; focus (first | assumption | (try simp only [List.length_append, List.length_cons, List.length_nil] at *; omega))))
            refine step_call2 (ih_diptychref3_Of _ _ h57).list (by try simp only [go_sem, h58a, h58d, h58e, hl0a, hl0b, hl0d, hl0w]; (repeat (first | exact WkL.refl _ | exact Wk.refl _ | exact Wk.nil _ | refine WkL.cons _ _ _ _ ?_ ?_ | exact WkL.nil | refine Wk.agg _ _ ?_ | refine Wk.tup _ _ ?_))) (by rfl) (by rfl) ?_
            simp only [go_sem, h58a, h58d, h58e, hl0a, hl0b, hl0d, hl0w]
            (repeat (refine And.intro ?_ ?_; focus (first | assumption | (try simp only [List.length_append, List.length_cons, List.length_nil] at *; omega))))
            refine hK _ _ fun nx => ?_; clear hK K; try clear kk
            obtain ⟨l_66, h59, hh⟩ := bind_ex hh
            obtain ⟨h59a, h59c⟩ := app_some h59
            have h59d := app_map (f := diptychref3_Token.pv) h59c
            have h59e := app_len h59c
            try simp only [List.length_cons, List.length_nil, Nat.zero_add, Nat.reduceAdd] at h59a h59e
            try simp only [h59e] at h59a
            try simp only [List.map_cons, List.map_nil, List.nil_append, List.append_nil, List.cons_append, List.singleton_append, rune1, diptychlaw3_Cell.pv_eq, api_Attr.pv_eq, api_Node.pv_eq, token_Token.pv_eq, diptychref3_Token.pv_eq, pvL] at h59d
            refine awp_region fun K kk hK => ?_
            simp only [go_sem, h59a, h59d, h59e, hl0a, hl0b, hl0d, hl0w]
            (repeat (refine And.intro ?_ ?_; focus (first | assumption | (try simp only [List.length_append, List.length_cons, List.length_nil] at *; omega))))
            refine hK _ _ fun nx => ?_; clear hK K; try clear kk
            (repeat (with_reducible first | refine then_n ?_ | refine then_r ?_ | refine then_e ?_ | refine block_n ?_ | refine block_r ?_ | refine exit_here ?_ | refine exit_on rfl ?_ | refine scope_n ?_ | refine scope_r ?_ | refine scope_e ?_ | refine cut_awp ?_))
            refine awp_region fun K kk hK => ?_
            simp only [go_sem, hl0a, hl0b, hl0d, hl0w]
            refine hK _ _ fun nx => ?_; clear hK K; try clear kk
            (repeat (with_reducible first | refine then_n ?_ | refine then_r ?_ | refine then_e ?_ | refine block_n ?_ | refine block_r ?_ | refine exit_here ?_ | refine exit_on rfl ?_ | refine scope_n ?_ | refine scope_r ?_ | refine scope_e ?_ | refine cut_awp ?_))
            have ih' := ih (pre ++ [y_46]) (i_23 + 1) _ (by rw [hsplit]; simp) (by simp [hidx]) hh nx
            refine cut_id ?_
            first | exact ih' _ | (simp only [diptychlaw3_Cell.pv_eq, api_Attr.pv_eq, api_Node.pv_eq, token_Token.pv_eq, diptychref3_Token.pv_eq, pvL, List.map_cons, List.map_nil, List.map_append, rune1, h56e, h58e, h59e] at ih' ⊢; exact ih' _)
      exact key l_1 [] _ _ rfl rfl f0 _ _
    · rintro s ⟨t, hless, out_69, rfl, i_67, v_68, nx, g3, rfl⟩
      try dsimp only at hh
      (repeat (with_reducible first | refine then_n ?_ | refine then_r ?_ | refine then_e ?_ | refine block_n ?_ | refine block_r ?_ | refine exit_here ?_ | refine exit_on rfl ?_ | refine scope_n ?_ | refine scope_r ?_ | refine scope_e ?_))
      first | (refine cut_less hless ?_; try refine cut_awp ?_) | refine frag_less hless ?_ | refine body_less hless ?_
      refine awp_first fun K kk hK => ?_
      simp only [go_sem]
      refine hK _ _ fun nx => ?_; clear hK K; try clear kk
      refine awp_ret ?_; (repeat (with_reducible first | refine then_n ?_ | refine then_r ?_ | refine then_e ?_ | refine block_n ?_ | refine block_r ?_ | refine exit_here ?_ | refine exit_on rfl ?_ | refine scope_n ?_ | refine scope_r ?_ | refine scope_e ?_ | refine cut_awp ?_))
      obtain hR := Option.some.inj hh
      subst hR
      exact ret_own (by rfl) (by rfl) (by rfl) (by simp only [List.length_map, List.length_cons, List.length_nil, Nat.zero_add, Nat.reduceAdd]) (by first | rfl | (simp only [diptychlaw3_Cell.pv_eq, api_Attr.pv_eq, api_Node.pv_eq, token_Token.pv_eq, diptychref3_Token.pv_eq, pvL, List.map_cons, List.map_nil, List.map_append, rune1]; done) | (simp only [diptychlaw3_Cell.pv_eq, api_Attr.pv_eq, api_Node.pv_eq, token_Token.pv_eq, diptychref3_Token.pv_eq, pvL, List.map_cons, List.map_nil, List.map_append, rune1]; rfl))
    · intro i s h; exact h.elim
    · intro s h; exact h.elim
theorem diptychref3_Of_ok (l_1 : (List api_Node)) (R : (List diptychref3_Token)) (hh : diptychref3_Of l_1 = some R) : PC Tryd.prog 20 [.list 5 (l_1.map api_Node.pv)] (.own 3 (R.map diptychref3_Token.pv)) := by
  rw [diptychref3_Of] at hh
  obtain ⟨kr, hh⟩ := lim_some hh
  exact (diptychref3_Of_grp kr) _ _ hh
theorem node_isText_ok (n_1 : api_Node) (R : Bool) (hh : node_isText n_1 = some R) : PC Tryd.prog 63 [.agg [.str n_1.Kind, .str n_1.Text, .list 1 (n_1.Marks.map PV.str), .list 2 (n_1.Attrs.map api_Attr.pv), .list 5 (n_1.Kids.map api_Node.pv)]] (.bool R) := by
  rw [node_isText] at hh
  refine start_node_isText rfl ?_
  refine awp_first fun K kk hK => ?_
  simp only [go_sem]
  refine hK _ _ fun nx => ?_; clear hK K; try clear kk
  refine awp_first fun K kk hK => ?_
  simp only [go_sem]
  refine hK _ _ fun nx => ?_; clear hK K; try clear kk
  refine awp_ret ?_; (repeat (with_reducible first | refine then_n ?_ | refine then_r ?_ | refine then_e ?_ | refine block_n ?_ | refine block_r ?_ | refine exit_here ?_ | refine exit_on rfl ?_ | refine scope_n ?_ | refine scope_r ?_ | refine scope_e ?_ | refine cut_awp ?_))
  obtain hR := Option.some.inj hh
  subst hR
  refine ret_pure2 ?_ (by rfl)
  simp only [go_sem, rvsRes, rvRes, cellRes, tupOf, pur2, List.map_cons, List.map_append, List.head?_cons]
  (repeat (first | exact Wk.refl _ | exact WkL.refl _ | exact Wk.nil _ | refine Wk.agg _ _ ?_ | refine Wk.tup _ _ ?_ | refine WkL.cons _ _ _ _ ?_ ?_ | exact WkL.nil))
theorem unicode_utf8_RuneCountInString_ok (s_1 : Str) (R : Int) (hh : unicode_utf8_RuneCountInString s_1 = some R) : PC Tryd.prog 76 [.str s_1] (.int .i64 R) := by
  rw [unicode_utf8_RuneCountInString] at hh
  refine start_unicode_utf8_RuneCountInString rfl ?_
  refine awp_first fun K kk hK => ?_
  simp only [go_sem]
  refine hK _ _ fun nx => ?_; clear hK K; try clear kk
  refine awp_seq ?_
  refine awp_first fun K kk hK => ?_
  simp only [go_sem]
  refine hK _ _ fun nx => ?_; clear hK K; try clear kk
  obtain ⟨e0, f0, hh⟩ := bind_ex hh
  refine awp_fragE (CutTo (fun s => ∃ n_4, n_4 = e0 ∧ ∃ (v_5 : Nat) (nx : Nat) (g4 : Nat), s = ⟨[(2, .int .i64 n_4), (4, .box 4 g4 0), (6, .bool false)], [(4, g4, .iter s_1 v_5)], nx⟩))
    (fun i s => False)
    (fun s => False) ?_ ?_ ?_ ?_
  · refine awp_block ?_
    refine awp_loopJ fun I hI => ?_
    obtain ⟨k, f0⟩ := lim_some f0
    have key : ∀ (k : Nat) (n_2 : Int) (v_3 : Nat), unicode_utf8_RuneCountInString_l0 s_1 k n_2 v_3 = some e0 → ∀ (nx : Nat) (g4 : Nat), I ⟨[(2, .int .i64 n_2), (4, .box 4 g4 0)], [(4, g4, .iter s_1 v_3)], nx⟩ := by
      intro k
      induction k with
      | zero => intro n_2 v_3 hh; rw [unicode_utf8_RuneCountInString_l0] at hh; cases hh
      | succ k ih =>
        intro n_2 v_3 hh nx g4
        rw [unicode_utf8_RuneCountInString_l0] at hh
        refine hI _ ?_
        by_cases h2 : (decide (v_3 < s_1.length)) = true
        · rw [if_pos h2] at hh
          refine awp_first fun K kk hK => ?_
          simp only [go_sem, h2, of_decide_eq_true h2]
          (repeat (refine And.intro ?_ ?_; focus (first | assumption | (try simp only [List.length_append, List.length_cons, List.length_nil] at *; omega))))
          refine hK _ _ fun nx => ?_; clear hK K; try clear kk
          refine awp_seq ?_
          refine awp_true rfl ?_
          refine awp_skip ?_; (repeat (with_reducible first | refine then_n ?_ | refine then_r ?_ | refine then_e ?_ | refine block_n ?_ | refine block_r ?_ | refine exit_here ?_ | refine exit_on rfl ?_ | refine scope_n ?_ | refine scope_r ?_ | refine scope_e ?_ | refine cut_awp ?_))
          refine awp_block ?_
          refine awp_region fun K kk hK => ?_
          simp only [go_sem]
          refine hK _ _ fun nx => ?_; clear hK K; try clear kk
          (repeat (with_reducible first | refine then_n ?_ | refine then_r ?_ | refine then_e ?_ | refine block_n ?_ | refine block_r ?_ | refine exit_here ?_ | refine exit_on rfl ?_ | refine scope_n ?_ | refine scope_r ?_ | refine scope_e ?_ | refine cut_awp ?_))
          have ih' := ih _ _ hh nx
          refine cut_id ?_
          first | exact ih' _ | (simp only [diptychlaw3_Cell.pv_eq, api_Attr.pv_eq, api_Node.pv_eq, token_Token.pv_eq, diptychref3_Token.pv_eq, pvL, List.map_cons, List.map_nil, List.map_append, rune1] at ih' ⊢; exact ih' _)
        · rw [if_neg h2] at hh
          replace h2 := Bool.eq_false_iff.mpr h2
          refine awp_first fun K kk hK => ?_
          simp only [go_sem, h2, of_decide_eq_false h2]
          (repeat (refine And.intro ?_ ?_; focus (first | assumption | (try simp only [List.length_append, List.length_cons, List.length_nil] at *; omega))))
          refine hK _ _ fun nx => ?_; clear hK K; try clear kk
          refine awp_seq ?_
          refine awp_false rfl ?_
          refine awp_exit ?_; (repeat (with_reducible first | refine then_n ?_ | refine then_r ?_ | refine then_e ?_ | refine block_n ?_ | refine block_r ?_ | refine exit_here ?_ | refine exit_on rfl ?_ | refine scope_n ?_ | refine scope_r ?_ | refine scope_e ?_ | refine cut_awp ?_))
          refine fragN ?_
          refine cut_id ?_
          refine ⟨_, (Option.some.inj hh), ?_⟩
          first | exact ⟨_, _, _, rfl⟩ | (simp only [diptychlaw3_Cell.pv_eq, api_Attr.pv_eq, api_Node.pv_eq, token_Token.pv_eq, diptychref3_Token.pv_eq, pvL, List.map_cons, List.map_nil, List.map_append, rune1]; exact ⟨_, _, _, rfl⟩)
    exact key _ _ _ f0 _ _
  · rintro s ⟨t, hless, n_4, rfl, v_5, nx, g4, rfl⟩
    try dsimp only at hh
    (repeat (with_reducible first | refine then_n ?_ | refine then_r ?_ | refine then_e ?_ | refine block_n ?_ | refine block_r ?_ | refine exit_here ?_ | refine exit_on rfl ?_ | refine scope_n ?_ | refine scope_r ?_ | refine scope_e ?_))
    first | (refine cut_less hless ?_; try refine cut_awp ?_) | refine frag_less hless ?_ | refine body_less hless ?_
    refine awp_first fun K kk hK => ?_
    simp only [go_sem]
    refine hK _ _ fun nx => ?_; clear hK K; try clear kk
    refine awp_ret ?_; (repeat (with_reducible first | refine then_n ?_ | refine then_r ?_ | refine then_e ?_ | refine block_n ?_ | refine block_r ?_ | refine exit_here ?_ | refine exit_on rfl ?_ | refine scope_n ?_ | refine scope_r ?_ | refine scope_e ?_ | refine cut_awp ?_))
    obtain hR := Option.some.inj hh
    subst hR
    refine ret_pure2 ?_ (by rfl)
    simp only [go_sem, rvsRes, rvRes, cellRes, tupOf, pur2, List.map_cons, List.map_append, List.head?_cons]
    (repeat (first | exact Wk.refl _ | exact WkL.refl _ | exact Wk.nil _ | refine Wk.agg _ _ ?_ | refine Wk.tup _ _ ?_ | refine WkL.cons _ _ _ _ ?_ ?_ | exact WkL.nil))
  · intro i s h; exact h.elim
  · intro s h; exact h.elim
theorem node_Size_grp : ∀ kr : Nat, (∀ (n_1 : api_Node) (R : Int), node_Size_k kr n_1 = some R → PC Tryd.prog 46 [.agg [.str n_1.Kind, .str n_1.Text, .list 1 (n_1.Marks.map PV.str), .list 2 (n_1.Attrs.map api_Attr.pv), .list 5 (n_1.Kids.map api_Node.pv)]] (.int .i64 R)) ∧
    (∀ (l_1 : (List api_Node)) (R : Int), node_Total_k kr l_1 = some R → PC Tryd.prog 21 [.list 5 (l_1.map api_Node.pv)] (.int .i64 R)) := by
  intro kr
  induction kr with
  | zero => exact ⟨(by intro n_1 R hh; rw [node_Size_k] at hh; cases hh), (by intro l_1 R hh; rw [node_Total_k] at hh; cases hh)⟩
  | succ kr ih =>
    obtain ⟨ih_node_Size, ih_node_Total⟩ := ih
    refine ⟨?_, ?_⟩
    · intro n_1 R hh
      rw [node_Size_k] at hh
      refine start_node_Size rfl ?_
      refine awp_first fun K kk hK => ?_
      simp only [go_sem]
      refine hK _ _ fun nx => ?_; clear hK K; try clear kk
      refine awp_seq ?_
      obtain ⟨istext_2, h1, hh⟩ := bind_ex hh
      refine awp_first fun K kk hK => ?_
      simp only [go_sem]
      refine step_call2 (node_isText_ok _ _ h1) (by try simp only [go_sem]; (repeat (first | exact WkL.refl _ | exact Wk.refl _ | exact Wk.nil _ | refine WkL.cons _ _ _ _ ?_ ?_ | exact WkL.nil | refine Wk.agg _ _ ?_ | refine Wk.tup _ _ ?_))) (by rfl) (by rfl) ?_
      simp only [go_sem]
      refine hK _ _ fun nx => ?_; clear hK K; try clear kk
      by_cases h2 : (istext_2) = true
      · rw [if_pos h2] at hh
        refine awp_true (by first | exact congrArg PV.bool h2 | rfl) ?_
        obtain ⟨runeco_3, h3, hh⟩ := bind_ex hh
        refine awp_first fun K kk hK => ?_
        simp only [go_sem]
        refine step_call2 (unicode_utf8_RuneCountInString_ok _ _ h3) (by try simp only [go_sem]; (repeat (first | exact WkL.refl _ | exact Wk.refl _ | exact Wk.nil _ | refine WkL.cons _ _ _ _ ?_ ?_ | exact WkL.nil | refine Wk.agg _ _ ?_ | refine Wk.tup _ _ ?_))) (by rfl) (by rfl) ?_
        simp only [go_sem]
        refine hK _ _ fun nx => ?_; clear hK K; try clear kk
        refine awp_ret ?_; (repeat (with_reducible first | refine then_n ?_ | refine then_r ?_ | refine then_e ?_ | refine block_n ?_ | refine block_r ?_ | refine exit_here ?_ | refine exit_on rfl ?_ | refine scope_n ?_ | refine scope_r ?_ | refine scope_e ?_ | refine cut_awp ?_))
        obtain hR := Option.some.inj hh
        subst hR
        refine ret_pure2 ?_ (by rfl)
        simp only [go_sem, rvsRes, rvRes, cellRes, tupOf, pur2, List.map_cons, List.map_append, List.head?_cons]
        (repeat (first | exact Wk.refl _ | exact WkL.refl _ | exact Wk.nil _ | refine Wk.agg _ _ ?_ | refine Wk.tup _ _ ?_ | refine WkL.cons _ _ _ _ ?_ ?_ | exact WkL.nil))
      · rw [if_neg h2] at hh
        replace h2 := Bool.eq_false_iff.mpr h2
        refine awp_false (by first | exact congrArg PV.bool h2 | rfl) ?_
        refine awp_skip ?_; (repeat (with_reducible first | refine then_n ?_ | refine then_r ?_ | refine then_e ?_ | refine block_n ?_ | refine block_r ?_ | refine exit_here ?_ | refine exit_on rfl ?_ | refine scope_n ?_ | refine scope_r ?_ | refine scope_e ?_ | refine cut_awp ?_))
        obtain ⟨total_4, h4, hh⟩ := bind_ex hh
        refine awp_first fun K kk hK => ?_
        simp only [go_sem]
        refine step_call2 (ih_node_Total _ _ h4) (by try simp only [go_sem]; (repeat (first | exact WkL.refl _ | exact Wk.refl _ | exact Wk.nil _ | refine WkL.cons _ _ _ _ ?_ ?_ | exact WkL.nil | refine Wk.agg _ _ ?_ | refine Wk.tup _ _ ?_))) (by rfl) (by rfl) ?_
        simp only [go_sem]
        refine hK _ _ fun nx => ?_; clear hK K; try clear kk
        refine awp_ret ?_; (repeat (with_reducible first | refine then_n ?_ | refine then_r ?_ | refine then_e ?_ | refine block_n ?_ | refine block_r ?_ | refine exit_here ?_ | refine exit_on rfl ?_ | refine scope_n ?_ | refine scope_r ?_ | refine scope_e ?_ | refine cut_awp ?_))
        obtain hR := Option.some.inj hh
        subst hR
        refine ret_pure2 ?_ (by rfl)
        simp only [go_sem, rvsRes, rvRes, cellRes, tupOf, pur2, List.map_cons, List.map_append, List.head?_cons]
        (repeat (first | exact Wk.refl _ | exact WkL.refl _ | exact Wk.nil _ | refine Wk.agg _ _ ?_ | refine Wk.tup _ _ ?_ | refine WkL.cons _ _ _ _ ?_ ?_ | exact WkL.nil))
    · intro l_1 R hh
      rw [node_Total_k] at hh
      refine start_node_Total rfl ?_
      refine awp_first fun K kk hK => ?_
      simp only [go_sem]
      refine hK _ _ fun nx => ?_; clear hK K; try clear kk
      refine awp_first fun K kk hK => ?_
      simp only [go_sem]
      refine hK _ _ fun nx => ?_; clear hK K; try clear kk
      refine awp_seq ?_
      refine awp_first fun K kk hK => ?_
      simp only [go_sem]
      refine hK _ _ fun nx => ?_; clear hK K; try clear kk
      obtain ⟨e0, f0, hh⟩ := bind_ex hh
      obtain ⟨hlen0, f0⟩ := chk_some f0
      refine awp_fragE (CutTo (fun s => ∃ many_10, many_10 = e0 ∧ ∃ (v_11 : Int) (v_12 : Bool) (nx : Nat), s = ⟨[(3, .int .i64 many_10), (6, .list 5 (l_1.map api_Node.pv)), (7, .int .i64 (l_1.length : Int)), (8, .int .i64 v_11), (9, .bool v_12)], [], nx⟩))
        (fun i s => False)
        (fun s => False) ?_ ?_ ?_ ?_
      · refine awp_block ?_
        refine awp_loopJ fun I hI => ?_
        have key : ∀ (suf pre : List api_Node) (v_5 : Int) (many_4 : Int), l_1 = pre ++ suf → v_5 = (pre.length : Int) → node_Total_l0 (node_Size_k kr) suf v_5 many_4 = some e0 → ∀ (nx : Nat), I ⟨[(3, .int .i64 many_4), (6, .list 5 (l_1.map api_Node.pv)), (7, .int .i64 (l_1.length : Int)), (8, .int .i64 v_5)], [], nx⟩ := by
          intro suf
          induction suf with
          | nil =>
            intro pre v_5 many_4 hsplit hidx hh nx
            rw [node_Total_l0] at hh
            refine hI _ ?_
            have h7 := walk_nil hsplit hidx
            refine awp_first fun K kk hK => ?_
            simp only [go_sem]
            refine hK _ _ fun nx => ?_; clear hK K; try clear kk
            refine awp_seq ?_
            refine awp_false (by first | exact congrArg PV.bool h7 | rfl) ?_
            refine awp_exit ?_; (repeat (with_reducible first | refine then_n ?_ | refine then_r ?_ | refine then_e ?_ | refine block_n ?_ | refine block_r ?_ | refine exit_here ?_ | refine exit_on rfl ?_ | refine scope_n ?_ | refine scope_r ?_ | refine scope_e ?_ | refine cut_awp ?_))
            refine fragN ?_
            refine cut_id ?_
            refine ⟨_, (Option.some.inj hh), ?_⟩
            first | exact ⟨_, _, _, rfl⟩ | (simp only [diptychlaw3_Cell.pv_eq, api_Attr.pv_eq, api_Node.pv_eq, token_Token.pv_eq, diptychref3_Token.pv_eq, pvL, List.map_cons, List.map_nil, List.map_append, rune1]; exact ⟨_, _, _, rfl⟩)
          | cons y_8 suf ih =>
            intro pre v_5 many_4 hsplit hidx hh nx
            rw [node_Total_l0] at hh
            refine hI _ ?_
            obtain ⟨hl0a, hl0b, hl0d, hl0w, h7⟩ := walk_cons (f := api_Node.pv) hsplit hidx hlen0
            refine awp_first fun K kk hK => ?_
            simp only [go_sem]
            refine hK _ _ fun nx => ?_; clear hK K; try clear kk
            refine awp_seq ?_
            refine awp_true (by first | exact congrArg PV.bool h7 | rfl) ?_
            refine awp_skip ?_; (repeat (with_reducible first | refine then_n ?_ | refine then_r ?_ | refine then_e ?_ | refine block_n ?_ | refine block_r ?_ | refine exit_here ?_ | refine exit_on rfl ?_ | refine scope_n ?_ | refine scope_r ?_ | refine scope_e ?_ | refine cut_awp ?_))
            refine awp_seq ?_
            refine awp_block ?_
            refine awp_first fun K kk hK => ?_
            simp only [go_sem, hl0a, hl0b, hl0d, hl0w]
            refine hK _ _ fun nx => ?_; clear hK K; try clear kk
            obtain ⟨size_9, h8, hh⟩ := bind_ex hh
            refine awp_region fun K kk hK => ?_
            simp only [go_sem, hl0a, hl0b, hl0d, hl0w]
            refine step_call2 (ih_node_Size _ _ h8) (by try simp only [go_sem, hl0a, hl0b, hl0d, hl0w]; (repeat (first | exact WkL.refl _ | exact Wk.refl _ | exact Wk.nil _ | refine WkL.cons _ _ _ _ ?_ ?_ | exact WkL.nil | refine Wk.agg _ _ ?_ | refine Wk.tup _ _ ?_))) (by rfl) (by rfl) ?_
            simp only [go_sem, hl0a, hl0b, hl0d, hl0w]
            refine hK _ _ fun nx => ?_; clear hK K; try clear kk
            (repeat (with_reducible first | refine then_n ?_ | refine then_r ?_ | refine then_e ?_ | refine block_n ?_ | refine block_r ?_ | refine exit_here ?_ | refine exit_on rfl ?_ | refine scope_n ?_ | refine scope_r ?_ | refine scope_e ?_ | refine cut_awp ?_))
            refine awp_region fun K kk hK => ?_
            simp only [go_sem, hl0a, hl0b, hl0d, hl0w]
            refine hK _ _ fun nx => ?_; clear hK K; try clear kk
            (repeat (with_reducible first | refine then_n ?_ | refine then_r ?_ | refine then_e ?_ | refine block_n ?_ | refine block_r ?_ | refine exit_here ?_ | refine exit_on rfl ?_ | refine scope_n ?_ | refine scope_r ?_ | refine scope_e ?_ | refine cut_awp ?_))
            have ih' := ih (pre ++ [y_8]) (v_5 + 1) _ (by rw [hsplit]; simp) (by simp [hidx]) hh nx
            refine cut_id ?_
            first | exact ih' | (simp only [diptychlaw3_Cell.pv_eq, api_Attr.pv_eq, api_Node.pv_eq, token_Token.pv_eq, diptychref3_Token.pv_eq, pvL, List.map_cons, List.map_nil, List.map_append, rune1] at ih' ⊢; exact ih')
        exact key l_1 [] _ _ rfl rfl f0 _
      · rintro s ⟨t, hless, many_10, rfl, v_11, v_12, nx, rfl⟩
        try dsimp only at hh
        (repeat (with_reducible first | refine then_n ?_ | refine then_r ?_ | refine then_e ?_ | refine block_n ?_ | refine block_r ?_ | refine exit_here ?_ | refine exit_on rfl ?_ | refine scope_n ?_ | refine scope_r ?_ | refine scope_e ?_))
        first | (refine cut_less hless ?_; try refine cut_awp ?_) | refine frag_less hless ?_ | refine body_less hless ?_
        refine awp_first fun K kk hK => ?_
        simp only [go_sem]
        refine hK _ _ fun nx => ?_; clear hK K; try clear kk
        refine awp_ret ?_; (repeat (with_reducible first | refine then_n ?_ | refine then_r ?_ | refine then_e ?_ | refine block_n ?_ | refine block_r ?_ | refine exit_here ?_ | refine exit_on rfl ?_ | refine scope_n ?_ | refine scope_r ?_ | refine scope_e ?_ | refine cut_awp ?_))
        obtain hR := Option.some.inj hh
        subst hR
        refine ret_pure2 ?_ (by rfl)
        simp only [go_sem, rvsRes, rvRes, cellRes, tupOf, pur2, List.map_cons, List.map_append, List.head?_cons]
        (repeat (first | exact Wk.refl _ | exact WkL.refl _ | exact Wk.nil _ | refine Wk.agg _ _ ?_ | refine Wk.tup _ _ ?_ | refine WkL.cons _ _ _ _ ?_ ?_ | exact WkL.nil))
      · intro i s h; exact h.elim
      · intro s h; exact h.elim
theorem node_Size_ok (n_1 : api_Node) (R : Int) (hh : node_Size n_1 = some R) : PC Tryd.prog 46 [.agg [.str n_1.Kind, .str n_1.Text, .list 1 (n_1.Marks.map PV.str), .list 2 (n_1.Attrs.map api_Attr.pv), .list 5 (n_1.Kids.map api_Node.pv)]] (.int .i64 R) := by
  rw [node_Size] at hh
  obtain ⟨kr, hh⟩ := lim_some hh
  exact (node_Size_grp kr).1 _ _ hh
theorem node_Total_ok (l_1 : (List api_Node)) (R : Int) (hh : node_Total l_1 = some R) : PC Tryd.prog 21 [.list 5 (l_1.map api_Node.pv)] (.int .i64 R) := by
  rw [node_Total] at hh
  obtain ⟨kr, hh⟩ := lim_some hh
  exact (node_Size_grp kr).2 _ _ hh
theorem diptychlaw3_TokenRows_ok (l_1 : (List diptychlaw3_Cell)) (n_2 : api_Node) (R : Bool) (hh : diptychlaw3_TokenRows l_1 n_2 = some R) : PC Tryd.prog 3 [.list 3 (l_1.map diptychlaw3_Cell.pv), .agg [.str n_2.Kind, .str n_2.Text, .list 1 (n_2.Marks.map PV.str), .list 2 (n_2.Attrs.map api_Attr.pv), .list 5 (n_2.Kids.map api_Node.pv)]] (.bool R) := by
  rw [diptychlaw3_TokenRows] at hh
  refine start_diptychlaw3_TokenRows rfl ?_
  refine awp_first fun K kk hK => ?_
  simp only [go_sem]
  refine hK _ _ fun nx => ?_; clear hK K; try clear kk
  obtain ⟨shown_3, h1, hh⟩ := bind_ex hh
  refine awp_first fun K kk hK => ?_
  simp only [go_sem]
  refine step_call2 (diptychlaw3_shown_ok _ h1) (by try simp only [go_sem]; (repeat (first | exact WkL.refl _ | exact Wk.refl _ | exact Wk.nil _ | refine WkL.cons _ _ _ _ ?_ ?_ | exact WkL.nil | refine Wk.agg _ _ ?_ | refine Wk.tup _ _ ?_))) (by rfl) (by rfl) ?_
  simp only [go_sem]
  refine hK _ _ fun nx => ?_; clear hK K; try clear kk
  obtain ⟨short_4, h2, hh⟩ := bind_ex hh
  refine awp_first fun K kk hK => ?_
  simp only [go_sem]
  refine step_call2 (diptychlaw3_short_ok _ _ h2) (by try simp only [go_sem]; (repeat (first | exact WkL.refl _ | exact Wk.refl _ | exact Wk.nil _ | refine WkL.cons _ _ _ _ ?_ ?_ | exact WkL.nil | refine Wk.agg _ _ ?_ | refine Wk.tup _ _ ?_))) (by rfl) (by rfl) ?_
  simp only [go_sem]
  refine hK _ _ fun nx => ?_; clear hK K; try clear kk
  refine awp_seq ?_
  by_cases h3 : (!shown_3) = true
  · rw [if_pos h3] at hh
    refine awp_first fun K kk hK => ?_
    simp only [go_sem, h3, h3]
    (repeat (refine And.intro ?_ ?_; focus (first | assumption | (try simp only [List.length_append, List.length_cons, List.length_nil] at *; omega))))
    refine hK _ _ fun nx => ?_; clear hK K; try clear kk
    refine awp_true rfl ?_
    refine awp_first fun K kk hK => ?_
    simp only [go_sem]
    refine hK _ _ fun nx => ?_; clear hK K; try clear kk
    refine awp_ret ?_; (repeat (with_reducible first | refine then_n ?_ | refine then_r ?_ | refine then_e ?_ | refine block_n ?_ | refine block_r ?_ | refine exit_here ?_ | refine exit_on rfl ?_ | refine scope_n ?_ | refine scope_r ?_ | refine scope_e ?_ | refine cut_awp ?_))
    obtain hR := Option.some.inj hh
    subst hR
    refine ret_pure2 ?_ (by rfl)
    simp only [go_sem, rvsRes, rvRes, cellRes, tupOf, pur2, List.map_cons, List.map_append, List.head?_cons]
    (repeat (first | exact Wk.refl _ | exact WkL.refl _ | exact Wk.nil _ | refine Wk.agg _ _ ?_ | refine Wk.tup _ _ ?_ | refine WkL.cons _ _ _ _ ?_ ?_ | exact WkL.nil))
  · rw [if_neg h3] at hh
    replace h3 := Bool.eq_false_iff.mpr h3
    by_cases h4 : (!short_4) = true
    · rw [if_pos h4] at hh
      refine awp_first fun K kk hK => ?_
      simp only [go_sem, h3, h3, h4, h4]
      (repeat (refine And.intro ?_ ?_; focus (first | assumption | (try simp only [List.length_append, List.length_cons, List.length_nil] at *; omega))))
      refine hK _ _ fun nx => ?_; clear hK K; try clear kk
      refine awp_true rfl ?_
      refine awp_first fun K kk hK => ?_
      simp only [go_sem]
      refine hK _ _ fun nx => ?_; clear hK K; try clear kk
      refine awp_ret ?_; (repeat (with_reducible first | refine then_n ?_ | refine then_r ?_ | refine then_e ?_ | refine block_n ?_ | refine block_r ?_ | refine exit_here ?_ | refine exit_on rfl ?_ | refine scope_n ?_ | refine scope_r ?_ | refine scope_e ?_ | refine cut_awp ?_))
      obtain hR := Option.some.inj hh
      subst hR
      refine ret_pure2 ?_ (by rfl)
      simp only [go_sem, rvsRes, rvRes, cellRes, tupOf, pur2, List.map_cons, List.map_append, List.head?_cons]
      (repeat (first | exact Wk.refl _ | exact WkL.refl _ | exact Wk.nil _ | refine Wk.agg _ _ ?_ | refine Wk.tup _ _ ?_ | refine WkL.cons _ _ _ _ ?_ ?_ | exact WkL.nil))
    · rw [if_neg h4] at hh
      replace h4 := Bool.eq_false_iff.mpr h4
      refine awp_first fun K kk hK => ?_
      simp only [go_sem, h3, h3, h4, h4]
      (repeat (refine And.intro ?_ ?_; focus (first | assumption | (try simp only [List.length_append, List.length_cons, List.length_nil] at *; omega))))
      refine hK _ _ fun nx => ?_; clear hK K; try clear kk
      by_cases h5 : (decide ((n_2.Kids.length : Int) > (0 : Int))) = true
      · rw [if_pos h5] at hh
        refine awp_true (by first | exact congrArg PV.bool h5 | rfl) ?_
        refine awp_first fun K kk hK => ?_
        simp only [go_sem]
        refine hK _ _ fun nx => ?_; clear hK K; try clear kk
        refine awp_ret ?_; (repeat (with_reducible first | refine then_n ?_ | refine then_r ?_ | refine then_e ?_ | refine block_n ?_ | refine block_r ?_ | refine exit_here ?_ | refine exit_on rfl ?_ | refine scope_n ?_ | refine scope_r ?_ | refine scope_e ?_ | refine cut_awp ?_))
        obtain hR := Option.some.inj hh
        subst hR
        refine ret_pure2 ?_ (by rfl)
        simp only [go_sem, rvsRes, rvRes, cellRes, tupOf, pur2, List.map_cons, List.map_append, List.head?_cons]
        (repeat (first | exact Wk.refl _ | exact WkL.refl _ | exact Wk.nil _ | refine Wk.agg _ _ ?_ | refine Wk.tup _ _ ?_ | refine WkL.cons _ _ _ _ ?_ ?_ | exact WkL.nil))
      · rw [if_neg h5] at hh
        replace h5 := Bool.eq_false_iff.mpr h5
        refine awp_false (by first | exact congrArg PV.bool h5 | rfl) ?_
        refine awp_skip ?_; (repeat (with_reducible first | refine then_n ?_ | refine then_r ?_ | refine then_e ?_ | refine block_n ?_ | refine block_r ?_ | refine exit_here ?_ | refine exit_on rfl ?_ | refine scope_n ?_ | refine scope_r ?_ | refine scope_e ?_ | refine cut_awp ?_))
        obtain ⟨made_5, h6, hh⟩ := bind_ex hh
        refine awp_first fun K kk hK => ?_
        simp only [go_sem]
        refine step_call2 (diptychlaw3_made_ok _ _ h6) (by try simp only [go_sem]; (repeat (first | exact WkL.refl _ | exact Wk.refl _ | exact Wk.nil _ | refine WkL.cons _ _ _ _ ?_ ?_ | exact WkL.nil | refine Wk.agg _ _ ?_ | refine Wk.tup _ _ ?_))) (by rfl) (by rfl) ?_
        simp only [go_sem]
        refine hK _ _ fun nx => ?_; clear hK K; try clear kk
        obtain ⟨of_6, h7, hh⟩ := bind_ex hh
        refine awp_first fun K kk hK => ?_
        simp only [go_sem]
        refine step_call2 (token_Of_ok _ _ h7).list (by try simp only [go_sem]; (repeat (first | exact WkL.refl _ | exact Wk.refl _ | exact Wk.nil _ | refine WkL.cons _ _ _ _ ?_ ?_ | exact WkL.nil | refine Wk.agg _ _ ?_ | refine Wk.tup _ _ ?_))) (by rfl) (by rfl) ?_
        simp only [go_sem]
        refine hK _ _ fun nx => ?_; clear hK K; try clear kk
        obtain ⟨of_7, h8, hh⟩ := bind_ex hh
        obtain ⟨same_8, h9, hh⟩ := bind_ex hh
        by_cases h10 : (same_8) = true
        · rw [if_pos h10] at hh
          obtain ⟨total_9, h11, hh⟩ := bind_ex hh
          by_cases h12 : ((of_6.length : Int) == total_9) = true
          · rw [if_pos h12] at hh
            obtain ⟨of_10, h13, hh⟩ := bind_ex hh
            obtain ⟨of_11, h14, hh⟩ := bind_ex hh
            obtain ⟨same_12, h15, hh⟩ := bind_ex hh
            refine awp_first fun K kk hK => ?_
            simp only [go_sem, h10, h10, h12, h12]
            (repeat (refine And.intro ?_ ?_; focus (first | assumption | (try simp only [List.length_append, List.length_cons, List.length_nil] at *; omega))))
            refine step_call2 (diptychref3_Of_ok _ _ h8).list (by try simp only [go_sem, h10, h10, h12, h12]; (repeat (first | exact WkL.refl _ | exact Wk.refl _ | exact Wk.nil _ | refine WkL.cons _ _ _ _ ?_ ?_ | exact WkL.nil | refine Wk.agg _ _ ?_ | refine Wk.tup _ _ ?_))) (by rfl) (by rfl) ?_
            simp only [go_sem, h10, h10, h12, h12]
            (repeat (refine And.intro ?_ ?_; focus (first | assumption | (try simp only [List.length_append, List.length_cons, List.length_nil] at *; omega))))
            refine step_call2 (diptychlaw3_same_ok _ _ _ h9) (by try simp only [go_sem, h10, h10, h12, h12]; (repeat (first | exact WkL.refl _ | exact Wk.refl _ | exact Wk.nil _ | refine WkL.cons _ _ _ _ ?_ ?_ | exact WkL.nil | refine Wk.agg _ _ ?_ | refine Wk.tup _ _ ?_))) (by rfl) (by rfl) ?_
            simp only [go_sem, h10, h10, h12, h12]
            (repeat (refine And.intro ?_ ?_; focus (first | assumption | (try simp only [List.length_append, List.length_cons, List.length_nil] at *; omega))))
            refine step_call2 (node_Total_ok _ _ h11) (by try simp only [go_sem, h10, h10, h12, h12]; (repeat (first | exact WkL.refl _ | exact Wk.refl _ | exact Wk.nil _ | refine WkL.cons _ _ _ _ ?_ ?_ | exact WkL.nil | refine Wk.agg _ _ ?_ | refine Wk.tup _ _ ?_))) (by rfl) (by rfl) ?_
            simp only [go_sem, h10, h10, h12, h12]
            (repeat (refine And.intro ?_ ?_; focus (first | assumption | (try simp only [List.length_append, List.length_cons, List.length_nil] at *; omega))))
            refine step_call2 (token_Of_ok _ _ h13).list (by try simp only [go_sem, h10, h10, h12, h12]; (repeat (first | exact WkL.refl _ | exact Wk.refl _ | exact Wk.nil _ | refine WkL.cons _ _ _ _ ?_ ?_ | exact WkL.nil | refine Wk.agg _ _ ?_ | refine Wk.tup _ _ ?_))) (by rfl) (by rfl) ?_
            simp only [go_sem, h10, h10, h12, h12]
            (repeat (refine And.intro ?_ ?_; focus (first | assumption | (try simp only [List.length_append, List.length_cons, List.length_nil] at *; omega))))
            refine step_call2 (diptychref3_Of_ok _ _ h14).list (by try simp only [go_sem, h10, h10, h12, h12]; (repeat (first | exact WkL.refl _ | exact Wk.refl _ | exact Wk.nil _ | refine WkL.cons _ _ _ _ ?_ ?_ | exact WkL.nil | refine Wk.agg _ _ ?_ | refine Wk.tup _ _ ?_))) (by rfl) (by rfl) ?_
            simp only [go_sem, h10, h10, h12, h12]
            (repeat (refine And.intro ?_ ?_; focus (first | assumption | (try simp only [List.length_append, List.length_cons, List.length_nil] at *; omega))))
            refine step_call2 (diptychlaw3_same_ok _ _ _ h15) (by try simp only [go_sem, h10, h10, h12, h12]; (repeat (first | exact WkL.refl _ | exact Wk.refl _ | exact Wk.nil _ | refine WkL.cons _ _ _ _ ?_ ?_ | exact WkL.nil | refine Wk.agg _ _ ?_ | refine Wk.tup _ _ ?_))) (by rfl) (by rfl) ?_
            simp only [go_sem, h10, h10, h12, h12]
            (repeat (refine And.intro ?_ ?_; focus (first | assumption | (try simp only [List.length_append, List.length_cons, List.length_nil] at *; omega))))
            refine hK _ _ fun nx => ?_; clear hK K; try clear kk
            refine awp_ret ?_; (repeat (with_reducible first | refine then_n ?_ | refine then_r ?_ | refine then_e ?_ | refine block_n ?_ | refine block_r ?_ | refine exit_here ?_ | refine exit_on rfl ?_ | refine scope_n ?_ | refine scope_r ?_ | refine scope_e ?_ | refine cut_awp ?_))
            obtain hR := Option.some.inj hh
            subst hR
            refine ret_pure2 ?_ (by rfl)
            simp only [go_sem, rvsRes, rvRes, cellRes, tupOf, pur2, List.map_cons, List.map_append, List.head?_cons]
            (repeat (first | exact Wk.refl _ | exact WkL.refl _ | exact Wk.nil _ | refine Wk.agg _ _ ?_ | refine Wk.tup _ _ ?_ | refine WkL.cons _ _ _ _ ?_ ?_ | exact WkL.nil))
          · rw [if_neg h12] at hh
            replace h12 := Bool.eq_false_iff.mpr h12
            refine awp_first fun K kk hK => ?_
            simp only [go_sem, h10, h10, h12, h12]
            (repeat (refine And.intro ?_ ?_; focus (first | assumption | (try simp only [List.length_append, List.length_cons, List.length_nil] at *; omega))))
            refine step_call2 (diptychref3_Of_ok _ _ h8).list (by try simp only [go_sem, h10, h10, h12, h12]; (repeat (first | exact WkL.refl _ | exact Wk.refl _ | exact Wk.nil _ | refine WkL.cons _ _ _ _ ?_ ?_ | exact WkL.nil | refine Wk.agg _ _ ?_ | refine Wk.tup _ _ ?_))) (by rfl) (by rfl) ?_
            simp only [go_sem, h10, h10, h12, h12]
            (repeat (refine And.intro ?_ ?_; focus (first | assumption | (try simp only [List.length_append, List.length_cons, List.length_nil] at *; omega))))
            refine step_call2 (diptychlaw3_same_ok _ _ _ h9) (by try simp only [go_sem, h10, h10, h12, h12]; (repeat (first | exact WkL.refl _ | exact Wk.refl _ | exact Wk.nil _ | refine WkL.cons _ _ _ _ ?_ ?_ | exact WkL.nil | refine Wk.agg _ _ ?_ | refine Wk.tup _ _ ?_))) (by rfl) (by rfl) ?_
            simp only [go_sem, h10, h10, h12, h12]
            (repeat (refine And.intro ?_ ?_; focus (first | assumption | (try simp only [List.length_append, List.length_cons, List.length_nil] at *; omega))))
            refine step_call2 (node_Total_ok _ _ h11) (by try simp only [go_sem, h10, h10, h12, h12]; (repeat (first | exact WkL.refl _ | exact Wk.refl _ | exact Wk.nil _ | refine WkL.cons _ _ _ _ ?_ ?_ | exact WkL.nil | refine Wk.agg _ _ ?_ | refine Wk.tup _ _ ?_))) (by rfl) (by rfl) ?_
            simp only [go_sem, h10, h10, h12, h12]
            (repeat (refine And.intro ?_ ?_; focus (first | assumption | (try simp only [List.length_append, List.length_cons, List.length_nil] at *; omega))))
            refine hK _ _ fun nx => ?_; clear hK K; try clear kk
            refine awp_ret ?_; (repeat (with_reducible first | refine then_n ?_ | refine then_r ?_ | refine then_e ?_ | refine block_n ?_ | refine block_r ?_ | refine exit_here ?_ | refine exit_on rfl ?_ | refine scope_n ?_ | refine scope_r ?_ | refine scope_e ?_ | refine cut_awp ?_))
            obtain hR := Option.some.inj hh
            subst hR
            refine ret_pure2 ?_ (by rfl)
            simp only [go_sem, rvsRes, rvRes, cellRes, tupOf, pur2, List.map_cons, List.map_append, List.head?_cons]
            (repeat (first | exact Wk.refl _ | exact WkL.refl _ | exact Wk.nil _ | refine Wk.agg _ _ ?_ | refine Wk.tup _ _ ?_ | refine WkL.cons _ _ _ _ ?_ ?_ | exact WkL.nil))
        · rw [if_neg h10] at hh
          replace h10 := Bool.eq_false_iff.mpr h10
          refine awp_first fun K kk hK => ?_
          simp only [go_sem, h10, h10]
          (repeat (refine And.intro ?_ ?_; focus (first | assumption | (try simp only [List.length_append, List.length_cons, List.length_nil] at *; omega))))
          refine step_call2 (diptychref3_Of_ok _ _ h8).list (by try simp only [go_sem, h10, h10]; (repeat (first | exact WkL.refl _ | exact Wk.refl _ | exact Wk.nil _ | refine WkL.cons _ _ _ _ ?_ ?_ | exact WkL.nil | refine Wk.agg _ _ ?_ | refine Wk.tup _ _ ?_))) (by rfl) (by rfl) ?_
          simp only [go_sem, h10, h10]
          (repeat (refine And.intro ?_ ?_; focus (first | assumption | (try simp only [List.length_append, List.length_cons, List.length_nil] at *; omega))))
          refine step_call2 (diptychlaw3_same_ok _ _ _ h9) (by try simp only [go_sem, h10, h10]; (repeat (first | exact WkL.refl _ | exact Wk.refl _ | exact Wk.nil _ | refine WkL.cons _ _ _ _ ?_ ?_ | exact WkL.nil | refine Wk.agg _ _ ?_ | refine Wk.tup _ _ ?_))) (by rfl) (by rfl) ?_
          simp only [go_sem, h10, h10]
          (repeat (refine And.intro ?_ ?_; focus (first | assumption | (try simp only [List.length_append, List.length_cons, List.length_nil] at *; omega))))
          refine hK _ _ fun nx => ?_; clear hK K; try clear kk
          refine awp_ret ?_; (repeat (with_reducible first | refine then_n ?_ | refine then_r ?_ | refine then_e ?_ | refine block_n ?_ | refine block_r ?_ | refine exit_here ?_ | refine exit_on rfl ?_ | refine scope_n ?_ | refine scope_r ?_ | refine scope_e ?_ | refine cut_awp ?_))
          obtain hR := Option.some.inj hh
          subst hR
          refine ret_pure2 ?_ (by rfl)
          simp only [go_sem, rvsRes, rvRes, cellRes, tupOf, pur2, List.map_cons, List.map_append, List.head?_cons]
          (repeat (first | exact Wk.refl _ | exact WkL.refl _ | exact Wk.nil _ | refine Wk.agg _ _ ?_ | refine Wk.tup _ _ ?_ | refine WkL.cons _ _ _ _ ?_ ?_ | exact WkL.nil))
theorem token_Same_ok (a_1 : (List token_Token)) (b_2 : (List token_Token)) (R : Int) (hh : token_Same a_1 b_2 = some R) : PC Tryd.prog 22 [.list 3 (a_1.map token_Token.pv), .list 3 (b_2.map token_Token.pv)] (.int .i64 R) := by
  rw [token_Same] at hh
  refine start_token_Same rfl ?_
  refine awp_first fun K kk hK => ?_
  simp only [go_sem]
  refine hK _ _ fun nx => ?_; clear hK K; try clear kk
  refine awp_seq ?_
  refine awp_first fun K kk hK => ?_
  simp only [go_sem]
  refine hK _ _ fun nx => ?_; clear hK K; try clear kk
  obtain ⟨e0, f0, hh⟩ := bind_ex hh
  obtain ⟨hlen0, f0⟩ := chk_some f0
  refine awp_fragE (CutTo (fun s => .inr () = e0 ∧ ∃ (v_11 : Int) (v_12 : Bool) (nx : Nat), s = ⟨[(0, .list 3 (a_1.map token_Token.pv)), (1, .list 3 (b_2.map token_Token.pv)), (7, .list 3 (a_1.map token_Token.pv)), (8, .int .i64 (a_1.length : Int)), (9, .int .i64 v_11), (10, .bool v_12)], [], nx⟩))
    (fun i s => False)
    (fun s => ∃ res_10, .inl res_10 = e0 ∧ bodyR Tryd.prog [.tmp 4] (.int .i64 res_10) [] .ret s) ?_ ?_ ?_ ?_
  · refine awp_block ?_
    refine awp_loopJ fun I hI => ?_
    have key : ∀ (suf pre : List token_Token) (v_5 : Int), a_1 = pre ++ suf → v_5 = (pre.length : Int) → token_Same_l0 b_2 suf v_5 = some e0 → ∀ (nx : Nat), I ⟨[(0, .list 3 (a_1.map token_Token.pv)), (1, .list 3 (b_2.map token_Token.pv)), (7, .list 3 (a_1.map token_Token.pv)), (8, .int .i64 (a_1.length : Int)), (9, .int .i64 v_5)], [], nx⟩ := by
      intro suf
      induction suf with
      | nil =>
        intro pre v_5 hsplit hidx hh nx
        rw [token_Same_l0] at hh
        refine hI _ ?_
        have h11 := walk_nil hsplit hidx
        refine awp_first fun K kk hK => ?_
        simp only [go_sem]
        refine hK _ _ fun nx => ?_; clear hK K; try clear kk
        refine awp_seq ?_
        refine awp_false (by first | exact congrArg PV.bool h11 | rfl) ?_
        refine awp_exit ?_; (repeat (with_reducible first | refine then_n ?_ | refine then_r ?_ | refine then_e ?_ | refine block_n ?_ | refine block_r ?_ | refine exit_here ?_ | refine exit_on rfl ?_ | refine scope_n ?_ | refine scope_r ?_ | refine scope_e ?_ | refine cut_awp ?_))
        refine fragN ?_
        refine cut_id ?_
        refine ⟨(Option.some.inj hh), ?_⟩
        first | exact ⟨_, _, _, rfl⟩ | (simp only [diptychlaw3_Cell.pv_eq, api_Attr.pv_eq, api_Node.pv_eq, token_Token.pv_eq, diptychref3_Token.pv_eq, pvL, List.map_cons, List.map_nil, List.map_append, rune1]; exact ⟨_, _, _, rfl⟩)
      | cons y_8 suf ih =>
        intro pre v_5 hsplit hidx hh nx
        rw [token_Same_l0] at hh
        refine hI _ ?_
        obtain ⟨hl0a, hl0b, hl0d, hl0w, h11⟩ := walk_cons (f := token_Token.pv) hsplit hidx hlen0
        refine awp_first fun K kk hK => ?_
        simp only [go_sem]
        refine hK _ _ fun nx => ?_; clear hK K; try clear kk
        refine awp_seq ?_
        refine awp_true (by first | exact congrArg PV.bool h11 | rfl) ?_
        refine awp_skip ?_; (repeat (with_reducible first | refine then_n ?_ | refine then_r ?_ | refine then_e ?_ | refine block_n ?_ | refine block_r ?_ | refine exit_here ?_ | refine exit_on rfl ?_ | refine scope_n ?_ | refine scope_r ?_ | refine scope_e ?_ | refine cut_awp ?_))
        refine awp_seq ?_
        refine awp_block ?_
        refine awp_first fun K kk hK => ?_
        simp only [go_sem, hl0a, hl0b, hl0d, hl0w]
        refine hK _ _ fun nx => ?_; clear hK K; try clear kk
        by_cases h12 : (v_5 == (b_2.length : Int)) = true
        · rw [if_pos h12] at hh
          refine awp_first fun K kk hK => ?_
          simp only [go_sem, h12, h12, hl0a, hl0b, hl0d, hl0w]
          (repeat (refine And.intro ?_ ?_; focus (first | assumption | (try simp only [List.length_append, List.length_cons, List.length_nil] at *; omega))))
          refine hK _ _ fun nx => ?_; clear hK K; try clear kk
          refine awp_true rfl ?_
          refine awp_first fun K kk hK => ?_
          simp only [go_sem, hl0a, hl0b, hl0d, hl0w]
          refine hK _ _ fun nx => ?_; clear hK K; try clear kk
          refine awp_ret ?_; (repeat (with_reducible first | refine then_n ?_ | refine then_r ?_ | refine then_e ?_ | refine block_n ?_ | refine block_r ?_ | refine exit_here ?_ | refine exit_on rfl ?_ | refine scope_n ?_ | refine scope_r ?_ | refine scope_e ?_ | refine cut_awp ?_))
          refine fragR ⟨_, (Option.some.inj hh), ?_⟩
          refine ret_pure2 ?_ (by rfl)
          simp only [go_sem, rvsRes, rvRes, cellRes, tupOf, pur2, List.map_cons, List.map_append, List.head?_cons]
          (repeat (first | exact Wk.refl _ | exact WkL.refl _ | exact Wk.nil _ | refine Wk.agg _ _ ?_ | refine Wk.tup _ _ ?_ | refine WkL.cons _ _ _ _ ?_ ?_ | exact WkL.nil))
        · rw [if_neg h12] at hh
          replace h12 := Bool.eq_false_iff.mpr h12
          obtain ⟨x_9, h13, hh⟩ := bind_ex hh
          obtain ⟨h13a, h13b, h13c⟩ := rd_some h13
          have h13d := rd_get (f := token_Token.pv) h13c
          have h13f := rd_more (f := token_Token.pv) h13c
          try simp only [Int.toNat_natCast, Int.reduceToNat] at h13d h13f
          refine awp_first fun K kk hK => ?_
          simp only [go_sem, h12, h13a, h13b, h13d, h13f.1, h13f.2, h12, hl0a, hl0b, hl0d, hl0w]
          (repeat (refine And.intro ?_ ?_; focus (first | assumption | (try simp only [List.length_append, List.length_cons, List.length_nil] at *; omega))))
          refine hK _ _ fun nx => ?_; clear hK K; try clear kk
          by_cases h14 : ((((y_8.Kind == x_9.Kind) && ((y_8.Text == x_9.Text) && (y_8.Head == x_9.Head))) != true)) = true
          · rw [if_pos h14] at hh
            refine awp_true (by first | exact congrArg PV.bool h14 | rfl) ?_
            refine awp_first fun K kk hK => ?_
            simp only [go_sem, hl0a, hl0b, hl0d, hl0w]
            refine hK _ _ fun nx => ?_; clear hK K; try clear kk
            refine awp_ret ?_; (repeat (with_reducible first | refine then_n ?_ | refine then_r ?_ | refine then_e ?_ | refine block_n ?_ | refine block_r ?_ | refine exit_here ?_ | refine exit_on rfl ?_ | refine scope_n ?_ | refine scope_r ?_ | refine scope_e ?_ | refine cut_awp ?_))
            refine fragR ⟨_, (Option.some.inj hh), ?_⟩
            refine ret_pure2 ?_ (by rfl)
            simp only [go_sem, rvsRes, rvRes, cellRes, tupOf, pur2, List.map_cons, List.map_append, List.head?_cons]
            (repeat (first | exact Wk.refl _ | exact WkL.refl _ | exact Wk.nil _ | refine Wk.agg _ _ ?_ | refine Wk.tup _ _ ?_ | refine WkL.cons _ _ _ _ ?_ ?_ | exact WkL.nil))
          · rw [if_neg h14] at hh
            replace h14 := Bool.eq_false_iff.mpr h14
            refine awp_false (by first | exact congrArg PV.bool h14 | rfl) ?_
            refine awp_skip ?_; (repeat (with_reducible first | refine then_n ?_ | refine then_r ?_ | refine then_e ?_ | refine block_n ?_ | refine block_r ?_ | refine exit_here ?_ | refine exit_on rfl ?_ | refine scope_n ?_ | refine scope_r ?_ | refine scope_e ?_ | refine cut_awp ?_))
            refine awp_region fun K kk hK => ?_
            simp only [go_sem, hl0a, hl0b, hl0d, hl0w]
            refine hK _ _ fun nx => ?_; clear hK K; try clear kk
            (repeat (with_reducible first | refine then_n ?_ | refine then_r ?_ | refine then_e ?_ | refine block_n ?_ | refine block_r ?_ | refine exit_here ?_ | refine exit_on rfl ?_ | refine scope_n ?_ | refine scope_r ?_ | refine scope_e ?_ | refine cut_awp ?_))
            have ih' := ih (pre ++ [y_8]) (v_5 + 1) (by rw [hsplit]; simp) (by simp [hidx]) hh nx
            refine cut_id ?_
            first | exact ih' | (simp only [diptychlaw3_Cell.pv_eq, api_Attr.pv_eq, api_Node.pv_eq, token_Token.pv_eq, diptychref3_Token.pv_eq, pvL, List.map_cons, List.map_nil, List.map_append, rune1] at ih' ⊢; exact ih')
    exact key a_1 [] _ rfl rfl f0 _
  · rintro s ⟨t, hless, rfl, v_11, v_12, nx, rfl⟩
    try dsimp only at hh
    (repeat (with_reducible first | refine then_n ?_ | refine then_r ?_ | refine then_e ?_ | refine block_n ?_ | refine block_r ?_ | refine exit_here ?_ | refine exit_on rfl ?_ | refine scope_n ?_ | refine scope_r ?_ | refine scope_e ?_))
    first | (refine cut_less hless ?_; try refine cut_awp ?_) | refine frag_less hless ?_ | refine body_less hless ?_
    refine awp_first fun K kk hK => ?_
    simp only [go_sem]
    refine hK _ _ fun nx => ?_; clear hK K; try clear kk
    refine awp_ret ?_; (repeat (with_reducible first | refine then_n ?_ | refine then_r ?_ | refine then_e ?_ | refine block_n ?_ | refine block_r ?_ | refine exit_here ?_ | refine exit_on rfl ?_ | refine scope_n ?_ | refine scope_r ?_ | refine scope_e ?_ | refine cut_awp ?_))
    obtain hR := Option.some.inj hh
    subst hR
    refine ret_pure2 ?_ (by rfl)
    simp only [go_sem, rvsRes, rvRes, cellRes, tupOf, pur2, List.map_cons, List.map_append, List.head?_cons]
    (repeat (first | exact Wk.refl _ | exact WkL.refl _ | exact Wk.nil _ | refine Wk.agg _ _ ?_ | refine Wk.tup _ _ ?_ | refine WkL.cons _ _ _ _ ?_ ?_ | exact WkL.nil))
  · intro i s h; exact h.elim
  · rintro s ⟨res_10, rfl, hb⟩
    try dsimp only at hh
    obtain hR := Option.some.inj hh
    subst hR
    (repeat (with_reducible first | refine then_n ?_ | refine then_r ?_ | refine then_e ?_ | refine block_n ?_ | refine block_r ?_ | refine exit_here ?_ | refine exit_on rfl ?_ | refine scope_n ?_ | refine scope_r ?_ | refine scope_e ?_ | refine cut_awp ?_))
    exact hb
theorem slices_Clone_token_Token_ok (l : (List token_Token)) (R : (List token_Token)) (hh : slices_Clone_token_Token l = some R) : PC Tryd.prog 57 [.list 3 (l.map token_Token.pv)] (.own 3 (R.map token_Token.pv)) := by
  rw [slices_Clone_token_Token] at hh
  obtain ⟨ha, hb⟩ := app_some hh
  rw [List.nil_append] at hb
  subst hb
  try simp only [List.length_nil, Nat.zero_add] at ha
  refine start_slices_Clone_token_Token rfl ?_
  refine awp_first fun K kk hK => ?_
  simp only [go_sem]
  refine hK _ _ fun nx => ?_; clear hK K; try clear kk
  refine awp_first fun K kk hK => ?_
  simp only [go_sem]
  refine ⟨fun hnil => hK _ _ fun nx => ?_, hK _ _ fun nx => ?_⟩ <;> (clear hK K; try clear kk)
  · have hl : l = [] := by simpa using hnil
    subst hl
    first | refine awp_true rfl ?_ | (refine awp_seq ?_; refine awp_true rfl ?_)
    refine awp_first fun K kk hK => ?_
    simp only [go_sem]
    refine hK _ _ fun nx => ?_; clear hK K; try clear kk
    refine awp_ret ?_; (repeat (with_reducible first | refine then_n ?_ | refine then_r ?_ | refine then_e ?_ | refine block_n ?_ | refine block_r ?_ | refine exit_here ?_ | refine exit_on rfl ?_ | refine scope_n ?_ | refine scope_r ?_ | refine scope_e ?_ | refine cut_awp ?_))
    exact ret_own_nil rfl
  · first | refine awp_false rfl ?_ | (refine awp_seq ?_; refine awp_false rfl ?_)
    refine awp_skip ?_; (repeat (with_reducible first | refine then_n ?_ | refine then_r ?_ | refine then_e ?_ | refine block_n ?_ | refine block_r ?_ | refine exit_here ?_ | refine exit_on rfl ?_ | refine scope_n ?_ | refine scope_r ?_ | refine scope_e ?_ | refine cut_awp ?_))
    refine awp_first fun K kk hK => ?_
    simp only [go_sem, ha]
    refine hK _ _ fun nx => ?_; clear hK K; try clear kk
    refine awp_ret ?_; (repeat (with_reducible first | refine then_n ?_ | refine then_r ?_ | refine then_e ?_ | refine block_n ?_ | refine block_r ?_ | refine exit_here ?_ | refine exit_on rfl ?_ | refine scope_n ?_ | refine scope_r ?_ | refine scope_e ?_ | refine cut_awp ?_))
    exact ret_own (by rfl) (by rfl) (by rfl) (by simp) (by rfl)
theorem slices_Reverse_token_Token_x_ok (l_1 : (List token_Token)) (R : (List token_Token)) (hh : slices_Reverse_token_Token_x l_1 = some R) : BC Tryd.prog 58 [.row 1000 0 l_1.length] [.row false 3 (l_1.map token_Token.pv)] (.tup []) [.row false 3 (R.map token_Token.pv)] := by
  rw [slices_Reverse_token_Token_x] at hh
  refine start_slices_Reverse_token_Token_x rfl rfl rfl ?_
  refine awp_first fun K kk hK => ?_
  simp only [go_sem]
  refine hK _ _ fun nx => ?_; clear hK K; try clear kk
  obtain ⟨e0, f0, hh⟩ := bind_ex hh
  refine awp_fragE (CutTo (fun s => ∃ s_18, s_18 = e0 ∧ ∃ (i_15 : Int) (j_16 : Int) (v_17 : Bool) (nx : Nat), s = ⟨[(0, .row 1000 0 s_18.length), (2, .int .i64 i_15), (3, .int .i64 j_16), (9, .bool v_17)], [(1000, 0, .row false 3 (s_18.map token_Token.pv))], nx⟩))
    (fun i s => False)
    (fun s => False) ?_ ?_ ?_ ?_
  · refine awp_block ?_
    refine awp_loopJ fun I hI => ?_
    obtain ⟨k, f0⟩ := lim_some f0
    have key : ∀ (k : Nat) (i_7 : Int) (j_8 : Int) (s_9 : (List token_Token)), slices_Reverse_token_Token_x_l0 k i_7 j_8 s_9 = some e0 → ∀ (nx : Nat), I ⟨[(0, .row 1000 0 s_9.length), (2, .int .i64 i_7), (3, .int .i64 j_8)], [(1000, 0, .row false 3 (s_9.map token_Token.pv))], nx⟩ := by
      intro k
      induction k with
      | zero => intro i_7 j_8 s_9 hh; rw [slices_Reverse_token_Token_x_l0] at hh; cases hh
      | succ k ih =>
        intro i_7 j_8 s_9 hh nx
        rw [slices_Reverse_token_Token_x_l0] at hh
        refine hI _ ?_
        refine awp_seq ?_
        refine awp_first fun K kk hK => ?_
        simp only [go_sem]
        refine hK _ _ fun nx => ?_; clear hK K; try clear kk
        by_cases h7 : (decide (i_7 < j_8)) = true
        · rw [if_pos h7] at hh
          refine awp_true (by first | exact congrArg PV.bool h7 | rfl) ?_
          refine awp_skip ?_; (repeat (with_reducible first | refine then_n ?_ | refine then_r ?_ | refine then_e ?_ | refine block_n ?_ | refine block_r ?_ | refine exit_here ?_ | refine exit_on rfl ?_ | refine scope_n ?_ | refine scope_r ?_ | refine scope_e ?_ | refine cut_awp ?_))
          refine awp_seq ?_
          refine awp_block ?_
          obtain ⟨x_10, h8, hh⟩ := bind_ex hh
          obtain ⟨h8a, h8b, h8c⟩ := rd_some h8
          have h8d := rd_get (f := token_Token.pv) h8c
          have h8f := rd_more (f := token_Token.pv) h8c
          try simp only [Int.toNat_natCast, Int.reduceToNat] at h8d h8f
          obtain ⟨x_11, h9, hh⟩ := bind_ex hh
          obtain ⟨h9a, h9b, h9c⟩ := rd_some h9
          have h9d := rd_get (f := token_Token.pv) h9c
          have h9f := rd_more (f := token_Token.pv) h9c
          try simp only [Int.toNat_natCast, Int.reduceToNat] at h9d h9f
          obtain ⟨l_12, h10, hh⟩ := bind_ex hh
          obtain ⟨h10a, h10c⟩ := wr_some h10
          have h10d := wr_map (f := token_Token.pv) h10c
          try simp only [Int.toNat_natCast, Int.reduceToNat, List.map_cons, List.map_nil, diptychlaw3_Cell.pv_eq, api_Attr.pv_eq, api_Node.pv_eq, token_Token.pv_eq, diptychref3_Token.pv_eq, pvL] at h10d
          have h10e := wr_len h10c
          have h8b_h10 := h8b; rw [h10e] at h8b_h10
          have h8f1_h10 := h8f.1; rw [h10e] at h8f1_h10
          have h8a_h10 := h8a; try rw [h10e] at h8a_h10
          have h8d_h10 := h8d; try rw [h10e] at h8d_h10
          try rw [h10e] at h10d
          have h9b_h10 := h9b; rw [h10e] at h9b_h10
          have h9f1_h10 := h9f.1; rw [h10e] at h9f1_h10
          have h9a_h10 := h9a; try rw [h10e] at h9a_h10
          have h9d_h10 := h9d; try rw [h10e] at h9d_h10
          try rw [h10e] at h10d
          have h10bw := h10a.2; rw [h10e] at h10bw
          obtain ⟨x_13, h11, hh⟩ := bind_ex hh
          obtain ⟨h11a, h11b, h11c⟩ := rd_some h11
          have h11d := rd_get (f := token_Token.pv) h11c
          have h11f := rd_more (f := token_Token.pv) h11c
          try simp only [Int.toNat_natCast, Int.reduceToNat] at h11d h11f
          obtain ⟨l_14, h12, hh⟩ := bind_ex hh
          obtain ⟨h12a, h12c⟩ := wr_some h12
          have h12d := wr_map (f := token_Token.pv) h12c
          try simp only [Int.toNat_natCast, Int.reduceToNat, List.map_cons, List.map_nil, diptychlaw3_Cell.pv_eq, api_Attr.pv_eq, api_Node.pv_eq, token_Token.pv_eq, diptychref3_Token.pv_eq, pvL] at h12d
          have h12e := wr_len h12c
          have h8b_h10_h12 := h8b_h10; rw [h12e] at h8b_h10_h12
          have h8f1_h10_h12 := h8f1_h10; rw [h12e] at h8f1_h10_h12
          have h8a_h10_h12 := h8a_h10; try rw [h12e] at h8a_h10_h12
          have h8d_h10_h12 := h8d_h10; try rw [h12e] at h8d_h10_h12
          try rw [h12e] at h12d
          have h9b_h10_h12 := h9b_h10; rw [h12e] at h9b_h10_h12
          have h9f1_h10_h12 := h9f1_h10; rw [h12e] at h9f1_h10_h12
          have h9a_h10_h12 := h9a_h10; try rw [h12e] at h9a_h10_h12
          have h9d_h10_h12 := h9d_h10; try rw [h12e] at h9d_h10_h12
          try rw [h12e] at h12d
          have h10bw_h12 := h10bw; rw [h12e] at h10bw_h12
          try rw [h12e] at h12d
          have h11b_h12 := h11b; rw [h12e] at h11b_h12
          have h11f1_h12 := h11f.1; rw [h12e] at h11f1_h12
          have h11a_h12 := h11a; try rw [h12e] at h11a_h12
          have h11d_h12 := h11d; try rw [h12e] at h11d_h12
          try rw [h12e] at h12d
          have h12bw := h12a.2; rw [h12e] at h12bw
          refine awp_region fun K kk hK => ?_
          simp only [go_sem, h8a, h8b, h8d, h8f.1, h8f.2, h9a, h9b, h9d, h9f.1, h9f.2, h9a, h9b, h9d, h9f.1, h9f.2, h10a.1, h10a.2, h10d, h10e, h8b_h10, h8f1_h10, h8a_h10, h8d_h10, h9b_h10, h9f1_h10, h9a_h10, h9d_h10, h10bw, h11a, h11b, h11d, h11f.1, h11f.2, h12a.1, h12a.2, h12d, h12e, h8b_h10_h12, h8f1_h10_h12, h8a_h10_h12, h8d_h10_h12, h9b_h10_h12, h9f1_h10_h12, h9a_h10_h12, h9d_h10_h12, h10bw_h12, h11b_h12, h11f1_h12, h11a_h12, h11d_h12, h12bw]
          (repeat (refine And.intro ?_ ?_; focus (first | assumption | (try simp only [List.length_append, List.length_cons, List.length_nil] at *; omega))))
          try simp only [go_sem, h8a, h8b, h8d, h8f.1, h8f.2, h9a, h9b, h9d, h9f.1, h9f.2, h9a, h9b, h9d, h9f.1, h9f.2, h10a.1, h10a.2, h10d, h10e, h8b_h10, h8f1_h10, h8a_h10, h8d_h10, h9b_h10, h9f1_h10, h9a_h10, h9d_h10, h10bw, h11a, h11b, h11d, h11f.1, h11f.2, h12a.1, h12a.2, h12d, h12e, h8b_h10_h12, h8f1_h10_h12, h8a_h10_h12, h8d_h10_h12, h9b_h10_h12, h9f1_h10_h12, h9a_h10_h12, h9d_h10_h12, h10bw_h12, h11b_h12, h11f1_h12, h11a_h12, h11d_h12, h12bw]
          refine hK _ _ fun nx => ?_; clear hK K; try clear kk
          (repeat (with_reducible first | refine then_n ?_ | refine then_r ?_ | refine then_e ?_ | refine block_n ?_ | refine block_r ?_ | refine exit_here ?_ | refine exit_on rfl ?_ | refine scope_n ?_ | refine scope_r ?_ | refine scope_e ?_ | refine cut_awp ?_))
          refine awp_region fun K kk hK => ?_
          simp only [go_sem]
          refine hK _ _ fun nx => ?_; clear hK K; try clear kk
          (repeat (with_reducible first | refine then_n ?_ | refine then_r ?_ | refine then_e ?_ | refine block_n ?_ | refine block_r ?_ | refine exit_here ?_ | refine exit_on rfl ?_ | refine scope_n ?_ | refine scope_r ?_ | refine scope_e ?_ | refine cut_awp ?_))
          have ih' := ih _ _ _ hh nx
          refine cut_id ?_
          first | exact ih' | (simp only [diptychlaw3_Cell.pv_eq, api_Attr.pv_eq, api_Node.pv_eq, token_Token.pv_eq, diptychref3_Token.pv_eq, pvL, List.map_cons, List.map_nil, List.map_append, rune1, h10e, h12e] at ih' ⊢; exact ih')
        · rw [if_neg h7] at hh
          replace h7 := Bool.eq_false_iff.mpr h7
          refine awp_false (by first | exact congrArg PV.bool h7 | rfl) ?_
          refine awp_exit ?_; (repeat (with_reducible first | refine then_n ?_ | refine then_r ?_ | refine then_e ?_ | refine block_n ?_ | refine block_r ?_ | refine exit_here ?_ | refine exit_on rfl ?_ | refine scope_n ?_ | refine scope_r ?_ | refine scope_e ?_ | refine cut_awp ?_))
          refine fragN ?_
          refine cut_id ?_
          refine ⟨_, (Option.some.inj hh), ?_⟩
          first | exact ⟨_, _, _, _, rfl⟩ | (simp only [diptychlaw3_Cell.pv_eq, api_Attr.pv_eq, api_Node.pv_eq, token_Token.pv_eq, diptychref3_Token.pv_eq, pvL, List.map_cons, List.map_nil, List.map_append, rune1]; exact ⟨_, _, _, _, rfl⟩)
    exact key _ _ _ _ f0 _
  · rintro s ⟨t, hless, s_18, rfl, i_15, j_16, v_17, nx, rfl⟩
    try dsimp only at hh
    (repeat (with_reducible first | refine then_n ?_ | refine then_r ?_ | refine then_e ?_ | refine block_n ?_ | refine block_r ?_ | refine exit_here ?_ | refine exit_on rfl ?_ | refine scope_n ?_ | refine scope_r ?_ | refine scope_e ?_))
    first | (refine cut_less hless ?_; try refine cut_awp ?_) | refine frag_less hless ?_ | refine body_less hless ?_
    obtain hR := Option.some.inj hh
    subst hR
    refine body_end ?_
    refine ret_pureB ?_ (by rfl) ?_
    · simp only [go_sem, rvsRes, rvRes, cellRes, tupOf, pur2, List.map_cons, List.map_append, List.head?_cons]
      (repeat (first | exact Wk.refl _ | exact WkL.refl _ | exact Wk.nil _ | refine Wk.agg _ _ ?_ | refine Wk.tup _ _ ?_ | refine WkL.cons _ _ _ _ ?_ ?_ | exact WkL.nil))
    · (try simp only [go_sem]); (try simp only [List.length_append, List.map_append]); (repeat (with_reducible first | exact trivial | exact rfl | exact WkL.refl _ | exact Wk.refl _ | exact Wk.nil _ | refine And.intro ?_ ?_ | refine WkL.cons _ _ _ _ ?_ ?_ | exact WkL.nil | refine Wk.agg _ _ ?_ | refine Wk.tup _ _ ?_))
  · intro i s h; exact h.elim
  · intro s h; exact h.elim
theorem token_Back_ok (a_1 : (List token_Token)) (b_2 : (List token_Token)) (R : Int) (hh : token_Back a_1 b_2 = some R) : PC Tryd.prog 23 [.list 3 (a_1.map token_Token.pv), .list 3 (b_2.map token_Token.pv)] (.int .i64 R) := by
  rw [token_Back] at hh
  refine start_token_Back rfl ?_
  refine awp_first fun K kk hK => ?_
  simp only [go_sem]
  refine hK _ _ fun nx => ?_; clear hK K; try clear kk
  obtain ⟨same_3, h1, hh⟩ := bind_ex hh
  refine awp_first fun K kk hK => ?_
  simp only [go_sem]
  refine step_call2 (token_Same_ok _ _ _ h1) (by try simp only [go_sem]; (repeat (first | exact WkL.refl _ | exact Wk.refl _ | exact Wk.nil _ | refine WkL.cons _ _ _ _ ?_ ?_ | exact WkL.nil | refine Wk.agg _ _ ?_ | refine Wk.tup _ _ ?_))) (by rfl) (by rfl) ?_
  simp only [go_sem]
  refine hK _ _ fun nx => ?_; clear hK K; try clear kk
  obtain ⟨s_4, h2, hh⟩ := bind_ex hh
  obtain ⟨h2a, h2c⟩ := sl_some h2
  have h2g := sl_le h2a
  have h2d := sl_map1 (f := token_Token.pv) h2c
  try simp only [Int.toNat_natCast, Int.reduceToNat, List.map_cons, List.map_nil, diptychlaw3_Cell.pv_eq, api_Attr.pv_eq, api_Node.pv_eq, token_Token.pv_eq, diptychref3_Token.pv_eq, pvL] at h2d
  obtain ⟨token_5, h3, hh⟩ := bind_ex hh
  obtain ⟨s_6, h4, hh⟩ := bind_ex hh
  obtain ⟨h4a, h4c⟩ := sl_some h4
  have h4g := sl_le h4a
  have h4d := sl_map1 (f := token_Token.pv) h4c
  try simp only [Int.toNat_natCast, Int.reduceToNat, List.map_cons, List.map_nil, diptychlaw3_Cell.pv_eq, api_Attr.pv_eq, api_Node.pv_eq, token_Token.pv_eq, diptychref3_Token.pv_eq, pvL] at h4d
  obtain ⟨token_7, h5, hh⟩ := bind_ex hh
  refine awp_first fun K kk hK => ?_
  simp only [go_sem, h2a.1, h2a.2.1, h2a.2.2, h2d, h2g, h4a.1, h4a.2.1, h4a.2.2, h4d, h4g]
  (repeat (refine And.intro ?_ ?_; focus (first | assumption | (try simp only [List.length_append, List.length_cons, List.length_nil] at *; omega))))
  refine step_callD [] (by decide) (by decide) (slices_Clone_token_Token_ok _ _ h3) (by try simp only [go_sem, h2a.1, h2a.2.1, h2a.2.2, h2d, h2g, h4a.1, h4a.2.1, h4a.2.2, h4d, h4g]; (repeat (with_reducible first | exact trivial | exact rfl | exact WkL.refl _ | exact Wk.refl _ | exact Wk.nil _ | refine And.intro ?_ ?_ | refine WkL.cons _ _ _ _ ?_ ?_ | exact WkL.nil | refine Wk.agg _ _ ?_ | refine Wk.tup _ _ ?_))) (by rfl) ?_
  simp only [go_sem, h2a.1, h2a.2.1, h2a.2.2, h2d, h2g, h4a.1, h4a.2.1, h4a.2.2, h4d, h4g]
  (repeat (refine And.intro ?_ ?_; focus (first | assumption | (try simp only [List.length_append, List.length_cons, List.length_nil] at *; omega))))
  refine step_callD [] (by decide) (by decide) (slices_Clone_token_Token_ok _ _ h5) (by try simp only [go_sem, h2a.1, h2a.2.1, h2a.2.2, h2d, h2g, h4a.1, h4a.2.1, h4a.2.2, h4d, h4g]; (repeat (with_reducible first | exact trivial | exact rfl | exact WkL.refl _ | exact Wk.refl _ | exact Wk.nil _ | refine And.intro ?_ ?_ | refine WkL.cons _ _ _ _ ?_ ?_ | exact WkL.nil | refine Wk.agg _ _ ?_ | refine Wk.tup _ _ ?_))) (by rfl) ?_
  simp only [go_sem, h2a.1, h2a.2.1, h2a.2.2, h2d, h2g, h4a.1, h4a.2.1, h4a.2.2, h4d, h4g]
  (repeat (refine And.intro ?_ ?_; focus (first | assumption | (try simp only [List.length_append, List.length_cons, List.length_nil] at *; omega))))
  refine hK _ _ fun nx => ?_; clear hK K; try clear kk
  obtain ⟨l_8, h6, hh⟩ := bind_ex hh
  obtain ⟨h7, hh⟩ := chk_some hh
  refine awp_first fun K kk hK => ?_
  simp only [go_sem, h7]
  (repeat (refine And.intro ?_ ?_; focus (first | assumption | (try simp only [List.length_append, List.length_cons, List.length_nil] at *; omega))))
  refine step_callC [0] (by decide) (slices_Reverse_token_Token_x_ok _ _ h6) (by try simp only [go_sem, h7]; (repeat (with_reducible first | exact trivial | exact rfl | exact WkL.refl _ | exact Wk.refl _ | exact Wk.nil _ | refine And.intro ?_ ?_ | refine WkL.cons _ _ _ _ ?_ ?_ | exact WkL.nil | refine Wk.agg _ _ ?_ | refine Wk.tup _ _ ?_))) (by rfl) ?_
  simp only [go_sem, h7]
  (repeat (refine And.intro ?_ ?_; focus (first | assumption | (try simp only [List.length_append, List.length_cons, List.length_nil] at *; omega))))
  refine hK _ _ fun nx => ?_; clear hK K; try clear kk
  obtain ⟨l_9, h8, hh⟩ := bind_ex hh
  obtain ⟨h9, hh⟩ := chk_some hh
  refine awp_first fun K kk hK => ?_
  simp only [go_sem, h9]
  (repeat (refine And.intro ?_ ?_; focus (first | assumption | (try simp only [List.length_append, List.length_cons, List.length_nil] at *; omega))))
  refine step_callC [1] (by decide) (slices_Reverse_token_Token_x_ok _ _ h8) (by try simp only [go_sem, h9]; (repeat (with_reducible first | exact trivial | exact rfl | exact WkL.refl _ | exact Wk.refl _ | exact Wk.nil _ | refine And.intro ?_ ?_ | refine WkL.cons _ _ _ _ ?_ ?_ | exact WkL.nil | refine Wk.agg _ _ ?_ | refine Wk.tup _ _ ?_))) (by rfl) ?_
  simp only [go_sem, h9]
  (repeat (refine And.intro ?_ ?_; focus (first | assumption | (try simp only [List.length_append, List.length_cons, List.length_nil] at *; omega))))
  refine hK _ _ fun nx => ?_; clear hK K; try clear kk
  obtain ⟨same_10, h10, hh⟩ := bind_ex hh
  refine awp_first fun K kk hK => ?_
  simp only [go_sem]
  refine step_call2 (token_Same_ok _ _ _ h10) (by try simp only [go_sem]; (repeat (first | exact WkL.refl _ | exact Wk.refl _ | exact Wk.nil _ | refine WkL.cons _ _ _ _ ?_ ?_ | exact WkL.nil | refine Wk.agg _ _ ?_ | refine Wk.tup _ _ ?_))) (by rfl) (by rfl) ?_
  simp only [go_sem]
  refine hK _ _ fun nx => ?_; clear hK K; try clear kk
  refine awp_ret ?_; (repeat (with_reducible first | refine then_n ?_ | refine then_r ?_ | refine then_e ?_ | refine block_n ?_ | refine block_r ?_ | refine exit_here ?_ | refine exit_on rfl ?_ | refine scope_n ?_ | refine scope_r ?_ | refine scope_e ?_ | refine cut_awp ?_))
  obtain hR := Option.some.inj hh
  subst hR
  refine ret_pure2 ?_ (by rfl)
  simp only [go_sem, rvsRes, rvRes, cellRes, tupOf, pur2, List.map_cons, List.map_append, List.head?_cons]
  (repeat (first | exact Wk.refl _ | exact WkL.refl _ | exact Wk.nil _ | refine Wk.agg _ _ ?_ | refine Wk.tup _ _ ?_ | refine WkL.cons _ _ _ _ ?_ ?_ | exact WkL.nil))

end Go.Proofs.YtlgjbmgmoaphjaaDoor
