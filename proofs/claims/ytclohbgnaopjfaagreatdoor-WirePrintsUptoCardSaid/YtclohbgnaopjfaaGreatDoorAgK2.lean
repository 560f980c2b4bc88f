/- What the functions answer, the program answers (2). -/
import Derived.Test.YtclohbgnaopjfaaGreatDoorAgC
import Derived.Test.YtclohbgnaopjfaaGreatDoorAgF
import Derived.Test.YtclohbgnaopjfaaGreatDoorAgK1
import Derived.Test.YtclohbgnaopjfaaGreatDoorAgL
namespace Go.Proofs.YtclohbgnaopjfaaGreatDoor
set_option linter.unusedSimpArgs false
set_option linter.unusedVariables false
open Go
set_option maxRecDepth 100000

theorem codec_Head_ok (n_1 : api_Node) (R : Str) (hh : codec_Head n_1 = some R) : PC Tryz.prog 39 [.agg [.str n_1.Kind, .str n_1.Text, .list 1 (n_1.Marks.map PV.str), .list 2 (n_1.Attrs.map api_Attr.pv), .list 5 (n_1.Kids.map api_Node.pv)]] (.str R) := by
  rw [codec_Head] at hh
  refine start_codec_Head rfl ?_
  refine awp_first fun K kk hK => ?_
  simp only [go_sem]
  refine hK _ _ fun nx => ?_; clear hK K; try clear kk
  refine awp_seq ?_
  refine awp_first fun K kk hK => ?_
  simp only [go_sem]
  refine hK _ _ fun nx => ?_; clear hK K; try clear kk
  by_cases h1 : (n_1.Kind == ([116, 101, 120, 116] : Str)) = true
  · rw [if_pos h1] at hh
    refine awp_true (by first | exact congrArg PV.bool h1 | rfl) ?_
    refine awp_seq ?_
    refine awp_first fun K kk hK => ?_
    simp only [go_sem]
    refine hK _ _ fun nx => ?_; clear hK K; try clear kk
    by_cases h2 : ((n_1.Marks.length : Int) == (0 : Int)) = true
    · rw [if_pos h2] at hh
      refine awp_true (by first | exact congrArg PV.bool h2 | rfl) ?_
      refine awp_first fun K kk hK => ?_
      simp only [go_sem]
      refine hK _ _ fun nx => ?_; clear hK K; try clear kk
      refine awp_ret ?_; refine nmx ?_
      obtain hR := Option.some.inj hh
      subst hR
      exact ret_p2
    · rw [if_neg h2] at hh
      replace h2 := Bool.eq_false_iff.mpr h2
      refine awp_false (by first | exact congrArg PV.bool h2 | rfl) ?_
      refine awp_skip ?_; refine nmx ?_
      obtain ⟨join_2, h3, hh⟩ := bind_ex hh
      obtain ⟨h4, hh⟩ := chk_some hh
      obtain ⟨h5, hh⟩ := chk_some hh
      refine awp_first fun K kk hK => ?_
      simp only [go_sem, h4, h5]
      (repeat refine sd ?_)
      refine step_call2 (strings_Join_ok _ _ _ h3) (by (try simp only [go_sem, h4, h5]) <;> exact wkl) (by rfl) (by rfl) ?_
      simp only [go_sem, h4, h5]
      (repeat refine sd ?_)
      refine hK _ _ fun nx => ?_; clear hK K; try clear kk
      refine awp_ret ?_; refine nmx ?_
      obtain hR := Option.some.inj hh
      subst hR
      exact ret_p2
  · rw [if_neg h1] at hh
    replace h1 := Bool.eq_false_iff.mpr h1
    refine awp_false (by first | exact congrArg PV.bool h1 | rfl) ?_
    refine awp_skip ?_; refine nmx ?_
    refine awp_seq ?_
    refine awp_first fun K kk hK => ?_
    simp only [go_sem]
    refine hK _ _ fun nx => ?_; clear hK K; try clear kk
    by_cases h6 : ((n_1.Attrs.length : Int) == (0 : Int)) = true
    · rw [if_pos h6] at hh
      refine awp_true (by first | exact congrArg PV.bool h6 | rfl) ?_
      refine awp_first fun K kk hK => ?_
      simp only [go_sem]
      refine hK _ _ fun nx => ?_; clear hK K; try clear kk
      refine awp_ret ?_; refine nmx ?_
      obtain hR := Option.some.inj hh
      subst hR
      exact ret_p2
    · rw [if_neg h6] at hh
      replace h6 := Bool.eq_false_iff.mpr h6
      refine awp_false (by first | exact congrArg PV.bool h6 | rfl) ?_
      refine awp_skip ?_; refine nmx ?_
      refine awp_first fun K kk hK => ?_
      simp only [go_sem]
      refine hK _ _ fun nx => ?_; clear hK K; try clear kk
      refine awp_seq ?_
      refine awp_first fun K kk hK => ?_
      simp only [go_sem]
      refine hK _ _ fun nx => ?_; clear hK K; try clear kk
      obtain ⟨e0, f0, hh⟩ := bind_ex hh
      obtain ⟨hlen0, f0⟩ := chk_some f0
      refine awp_fragE (CutTo (fun s => ∃ l_16, l_16 = e0 ∧ ∃ (v_14 : Int) (v_15 : Bool) (nx : Nat) (g1 : Nat) (g3 : Nat), s = ⟨[(1, .box 1 g1 0), (3, .row 3 g3 l_16.length), (25, .list 2 (n_1.Attrs.map api_Attr.pv)), (26, .int .i64 (n_1.Attrs.length : Int)), (27, .int .i64 v_14), (28, .bool v_15)], [(1, g1, .var 28 [.str n_1.Kind, .str n_1.Text, .list 1 (n_1.Marks.map PV.str), .list 2 (n_1.Attrs.map api_Attr.pv), .list 5 (n_1.Kids.map api_Node.pv)]), (3, g3, .row false 1 (l_16.map PV.str))], nx⟩))
        (fun i s => False)
        (fun s => False) ?_ ?_ ?_ ?_
      · refine awp_block ?_
        refine awp_loopJ fun I hI => ?_
        have key : ∀ (suf pre : List api_Attr) (v_6 : Int) (l_7 : (List Str)), n_1.Attrs = pre ++ suf → v_6 = (pre.length : Int) → codec_Head_l0 suf v_6 l_7 = some e0 → ∀ (nx : Nat) (g1 : Nat) (g3 : Nat), I ⟨[(1, .box 1 g1 0), (3, .row 3 g3 l_7.length), (25, .list 2 (n_1.Attrs.map api_Attr.pv)), (26, .int .i64 (n_1.Attrs.length : Int)), (27, .int .i64 v_6)], [(1, g1, .var 28 [.str n_1.Kind, .str n_1.Text, .list 1 (n_1.Marks.map PV.str), .list 2 (n_1.Attrs.map api_Attr.pv), .list 5 (n_1.Kids.map api_Node.pv)]), (3, g3, .row false 1 (l_7.map PV.str))], nx⟩ := by
          intro suf
          induction suf with
          | nil =>
            intro pre v_6 l_7 hsplit hidx hh nx g1 g3
            rw [codec_Head_l0] at hh
            refine hI _ ?_
            have h19 := walk_nil hsplit hidx
            refine awp_first fun K kk hK => ?_
            simp only [go_sem]
            refine hK _ _ fun nx => ?_; clear hK K; try clear kk
            refine awp_seq ?_
            refine awp_false (by first | exact congrArg PV.bool h19 | rfl) ?_
            refine awp_exit ?_; refine nmx ?_
            refine fragN ?_
            refine cut_id ?_
            refine ⟨_, (Option.some.inj hh), ?_⟩
            first | exact ⟨_, _, _, _, _, rfl⟩ | (simp only [api_Attr.pv_eq, api_Node.pv_eq, step_Step.pv_eq, diptychref11_Step.pv_eq, pvL, List.map_cons, List.map_nil, List.map_append, rune1]; exact ⟨_, _, _, _, _, rfl⟩) | (simp only [api_Attr.pv_eq, api_Node.pv_eq, step_Step.pv_eq, diptychref11_Step.pv_eq, pvL, List.map_cons, List.map_nil, List.map_append, rune1, h1, h19, h6]; exact ⟨_, _, _, _, _, rfl⟩)
          | cons y_11 suf ih =>
            intro pre v_6 l_7 hsplit hidx hh nx g1 g3
            rw [codec_Head_l0] at hh
            refine hI _ ?_
            obtain ⟨hl0a, hl0b, hl0d, hl0w, h19⟩ := walk_cons (f := api_Attr.pv) hsplit hidx hlen0
            refine awp_first fun K kk hK => ?_
            simp only [go_sem]
            refine hK _ _ fun nx => ?_; clear hK K; try clear kk
            refine awp_seq ?_
            refine awp_true (by first | exact congrArg PV.bool h19 | rfl) ?_
            refine awp_skip ?_; refine nmx ?_
            refine awp_seq ?_
            refine awp_block ?_
            refine awp_first fun K kk hK => ?_
            simp only [go_sem, hl0a, hl0b, hl0d, hl0w]
            refine hK _ _ fun nx => ?_; clear hK K; try clear kk
            obtain ⟨h20, hh⟩ := chk_some hh
            obtain ⟨quote_12, h21, hh⟩ := bind_ex hh
            obtain ⟨h22, hh⟩ := chk_some hh
            obtain ⟨l_13, h23, hh⟩ := bind_ex hh
            obtain ⟨h23a, h23c⟩ := app_some h23
            have h23d := app_map (f := PV.str) h23c
            have h23e := app_len h23c
            try simp only [List.length_cons, List.length_nil, Nat.zero_add, Nat.reduceAdd] at h23a h23e
            try simp only [h23e] at h23a
            try simp only [List.map_cons, List.map_nil, List.nil_append, List.append_nil, List.cons_append, List.singleton_append, rune1, api_Attr.pv_eq, api_Node.pv_eq, step_Step.pv_eq, diptychref11_Step.pv_eq, pvL] at h23d
            refine awp_region fun K kk hK => ?_
            simp only [go_sem, h20, h22, h23a, h23d, h23e, hl0a, hl0b, hl0d, hl0w]
            (repeat refine sd ?_)
            refine step_call2 (codec_Quote_ok _ _ h21) (by (try simp only [go_sem, h20, h22, h23a, h23d, h23e, hl0a, hl0b, hl0d, hl0w]) <;> exact wkl) (by rfl) (by rfl) ?_
            simp only [go_sem, h20, h22, h23a, h23d, h23e, hl0a, hl0b, hl0d, hl0w]
            (repeat refine sd ?_)
            refine hK _ _ fun nx => ?_; clear hK K; try clear kk
            refine nmx ?_
            refine awp_region fun K kk hK => ?_
            simp only [go_sem, hl0a, hl0b, hl0d, hl0w]
            refine hK _ _ fun nx => ?_; clear hK K; try clear kk
            refine nmx ?_
            have ih' := ih (pre ++ [y_11]) (v_6 + 1) _ (by rw [hsplit]; simp) (by simp [hidx]) hh nx
            refine cut_id ?_
            first | exact ih' _ _ | (simp only [api_Attr.pv_eq, api_Node.pv_eq, step_Step.pv_eq, diptychref11_Step.pv_eq, pvL, List.map_cons, List.map_nil, List.map_append, rune1, h23e] at ih' ⊢; exact ih' _ _) | (simp only [api_Attr.pv_eq, api_Node.pv_eq, step_Step.pv_eq, diptychref11_Step.pv_eq, pvL, List.map_cons, List.map_nil, List.map_append, rune1, h23e, h1, h19, h6] at ih' ⊢; exact ih' _ _)
        exact key n_1.Attrs [] _ _ rfl rfl f0 _ _ _
      · rintro s ⟨t, hless, l_16, rfl, v_14, v_15, nx, g1, g3, rfl⟩
        try dsimp only at hh
        refine nmy ?_
        first | (refine cut_less hless ?_; try refine cut_awp ?_) | refine frag_less hless ?_ | refine body_less hless ?_
        obtain ⟨h24, hh⟩ := chk_some hh
        obtain ⟨join_17, h25, hh⟩ := bind_ex hh
        obtain ⟨h26, hh⟩ := chk_some hh
        obtain ⟨h27, hh⟩ := chk_some hh
        refine first_fact (.nrm 3 [some 1]) ?_
        refine awp_first fun K kk hK => ?_
        simp only [go_sem, h24, h26, h27]
        (repeat refine sd ?_)
        refine step_call2 (strings_Join_ok _ _ _ h25) (by (try simp only [go_sem, h24, h26, h27]) <;> exact wkl) (by rfl) (by rfl) ?_
        simp only [go_sem, h24, h26, h27]
        (repeat refine sd ?_)
        refine hK _ _ fun nx => ?_; clear hK K; try clear kk
        refine awp_ret ?_; refine nmx ?_
        obtain hR := Option.some.inj hh
        subst hR
        exact ret_p2
      · intro i s h; exact h.elim
      · intro s h; exact h.elim
theorem strings_Builder_copyCheck_x_ok (l : Str) (R : (List UInt8)) (hh : strings_Builder_copyCheck_x l = some R) : BC Tryz.prog 106 [.box 1000 0 0] [.var 107 [.selfP 1000 0, .row 1001 0 l.length], .bytes 5 l] (.tup []) [.var 107 [.selfP 1000 0, .row 1001 0 R.length], .bytes 5 R] := by
  rw [strings_Builder_copyCheck_x] at hh
  exact lib_copyCheck ⟨_, Tryz.func106, by kernel_rfl, by kernel_rfl⟩ (Any.Builder_copyCheck_fresh (ρ := Tryz.lays165_ren) { Tryz.lays165 with } Tryz.Builder_Extra_165.toX72) (Any.Builder_copyCheck_used (ρ := Tryz.lays165_ren) { Tryz.lays165 with } Tryz.Builder_Extra_165.toX72) l R hh
theorem strings_Builder_WriteString_x_ok (s_1 : Str) (l_2 : (List UInt8)) (R : (Int × (List UInt8))) (hh : strings_Builder_WriteString_x s_1 l_2 = some R) : BC Tryz.prog 66 [.box 1000 0 0, .str s_1] [.var 107 [.selfP 1000 0, .row 1001 0 l_2.length], .bytes 5 l_2] (.tup [.int .i64 R.1, .nilI]) [.var 107 [.selfP 1000 0, .row 1001 0 R.2.length], .movedB 5 R.2] := by
  rw [strings_Builder_WriteString_x] at hh
  refine start_strings_Builder_WriteString_x rfl rfl rfl ?_
  refine awp_first fun K kk hK => ?_
  simp only [go_sem]
  refine hK _ _ fun nx => ?_; clear hK K; try clear kk
  obtain ⟨l_3, h1, hh⟩ := bind_ex hh
  refine awp_first fun K kk hK => ?_
  simp only [go_sem]
  refine step_callC [1000, 1001] (by decide) (strings_Builder_copyCheck_x_ok _ _ h1) (by (try simp only [go_sem]) <;> exact wkb) (by rfl) ?_
  simp only [go_sem]
  refine hK _ _ fun nx => ?_; clear hK K; try clear kk
  obtain ⟨l_4, h2, hh⟩ := bind_ex hh
  obtain ⟨h2a, h2c⟩ := app_some h2
  have h2d := app_map (f := pvB) h2c
  have h2e := app_len h2c
  try simp only [List.length_cons, List.length_nil, Nat.zero_add, Nat.reduceAdd] at h2a h2e
  try simp only [h2e] at h2a
  try simp only [List.map_cons, List.map_nil, List.nil_append, List.append_nil, List.cons_append, List.singleton_append, rune1, api_Attr.pv_eq, api_Node.pv_eq, step_Step.pv_eq, diptychref11_Step.pv_eq, pvL] at h2d
  refine awp_first fun K kk hK => ?_
  simp only [go_sem, h2a, h2c, h2e]
  (repeat refine sd ?_)
  refine hK _ _ fun nx => ?_; clear hK K; try clear kk
  refine awp_first fun K kk hK => ?_
  simp only [go_sem]
  refine hK _ _ fun nx => ?_; clear hK K; try clear kk
  refine awp_ret ?_; refine nmx ?_
  obtain hR := Option.some.inj hh
  subst hR
  refine ret_pureB ?_ (by rfl) ?_
  · simp only [go_sem, rvsRes, rvRes, cellRes, tupOf, pur2, List.map_cons, List.map_append, List.head?_cons]
    all_goals exact wkw
  · (try simp only [go_sem]); (try simp only [List.length_append, List.map_append, h2e]); all_goals exact wkb
theorem codec_write_x_grp : ∀ kr : Nat, (∀ (n_1 : api_Node) (l_2 : (List UInt8)) (R : (List UInt8)), codec_write_x_k kr n_1 l_2 = some R → BC Tryz.prog 135 [.box 1000 0 0, .agg [.str n_1.Kind, .str n_1.Text, .list 1 (n_1.Marks.map PV.str), .list 2 (n_1.Attrs.map api_Attr.pv), .list 5 (n_1.Kids.map api_Node.pv)]] [.var 107 [.selfP 1000 0, .row 1001 0 l_2.length], .bytes 5 l_2] (.tup []) [.var 107 [.selfP 1000 0, .row 1001 0 R.length], .movedB 5 R]) := by
  intro kr
  induction kr with
  | zero => exact (by intro n_1 l_2 R hh; rw [codec_write_x_k] at hh; cases hh)
  | succ kr ih =>
    have ih_codec_write_x := ih
    clear ih
    intro n_1 l_2 R hh
    rw [codec_write_x_k] at hh
    refine start_codec_write_x rfl rfl rfl ?_
    refine awp_first fun K kk hK => ?_
    simp only [go_sem]
    refine hK _ _ fun nx => ?_; clear hK K; try clear kk
    refine awp_seq ?_
    refine awp_first fun K kk hK => ?_
    simp only [go_sem]
    refine hK _ _ fun nx => ?_; clear hK K; try clear kk
    by_cases h1 : (n_1.Kind == ([116, 101, 120, 116] : Str)) = true
    · rw [if_pos h1] at hh
      refine awp_true (by first | exact congrArg PV.bool h1 | rfl) ?_
      obtain ⟨quote_3, h2, hh⟩ := bind_ex hh
      obtain ⟨head_4, h3, hh⟩ := bind_ex hh
      obtain ⟨h4, hh⟩ := chk_some hh
      obtain ⟨⟨r_5, l_6⟩, h5, hh⟩ := bind_ex hh
      dsimp only at hh
      refine awp_first fun K kk hK => ?_
      simp only [go_sem, h4]
      (repeat refine sd ?_)
      refine step_call2 (codec_Quote_ok _ _ h2) (by (try simp only [go_sem, h4]) <;> exact wkl) (by rfl) (by rfl) ?_
      simp only [go_sem, h4]
      (repeat refine sd ?_)
      refine step_call2 (codec_Head_ok _ _ h3) (by (try simp only [go_sem, h4]) <;> exact wkl) (by rfl) (by rfl) ?_
      simp only [go_sem, h4]
      (repeat refine sd ?_)
      refine step_callD [1000, 1001] (by decide) (by decide) (strings_Builder_WriteString_x_ok _ _ _ h5) (by (try simp only [go_sem, h4, h1]) <;> exact wkb) (by rfl) ?_
      simp only [go_sem, h4]
      (repeat refine sd ?_)
      refine hK _ _ fun nx => ?_; clear hK K; try clear kk
      refine awp_ret ?_; refine nmx ?_
      obtain hR := Option.some.inj hh
      subst hR
      refine ret_pureB ?_ (by rfl) ?_
      · simp only [go_sem, rvsRes, rvRes, cellRes, tupOf, pur2, List.map_cons, List.map_append, List.head?_cons, h1]
        all_goals exact wkw
      · (try simp only [go_sem, h1]); (try simp only [List.length_append, List.map_append]); all_goals exact wkb
    · rw [if_neg h1] at hh
      replace h1 := Bool.eq_false_iff.mpr h1
      refine awp_false (by first | exact congrArg PV.bool h1 | rfl) ?_
      refine awp_skip ?_; refine nmx ?_
      obtain ⟨head_7, h6, hh⟩ := bind_ex hh
      obtain ⟨h7, hh⟩ := chk_some hh
      obtain ⟨⟨r_8, l_9⟩, h8, hh⟩ := bind_ex hh
      dsimp only at hh
      refine awp_first fun K kk hK => ?_
      simp only [go_sem, h7]
      (repeat refine sd ?_)
      refine step_call2 (codec_Head_ok _ _ h6) (by (try simp only [go_sem, h7]) <;> exact wkl) (by rfl) (by rfl) ?_
      simp only [go_sem, h7]
      (repeat refine sd ?_)
      refine step_callC [1000, 1001] (by decide) (strings_Builder_WriteString_x_ok _ _ _ h8) (by (try simp only [go_sem, h7, h1]) <;> exact wkb) (by rfl) ?_
      simp only [go_sem, h7]
      (repeat refine sd ?_)
      refine hK _ _ fun nx => ?_; clear hK K; try clear kk
      refine awp_seq ?_
      refine awp_first fun K kk hK => ?_
      simp only [go_sem]
      refine hK _ _ fun nx => ?_; clear hK K; try clear kk
      obtain ⟨e0, f0, hh⟩ := bind_ex hh
      obtain ⟨hlen0, f0⟩ := chk_some f0
      refine awp_fragE (CutTo (fun s => ∃ v_20, v_20 = e0 ∧ ∃ (v_18 : Int) (v_19 : Bool) (nx : Nat) (g1001 : Nat), s = ⟨[(0, .box 1000 0 0), (23, .list 5 (n_1.Kids.map api_Node.pv)), (24, .int .i64 (n_1.Kids.length : Int)), (25, .int .i64 v_18), (26, .bool v_19)], [(1000, 0, .var 107 [.selfP 1000 0, .row 1001 g1001 v_20.length]), (1001, g1001, .bytes 5 v_20)], nx⟩))
        (fun i s => False)
        (fun s => False) ?_ ?_ ?_ ?_
      · refine awp_block ?_
        refine awp_loopJ fun I hI => ?_
        have key : ∀ (suf pre : List api_Node) (v_12 : Int) (v_13 : (List UInt8)), n_1.Kids = pre ++ suf → v_12 = (pre.length : Int) → codec_write_x_l0 (codec_write_x_k kr) suf v_12 v_13 = some e0 → ∀ (nx : Nat) (g1001 : Nat), I ⟨[(0, .box 1000 0 0), (23, .list 5 (n_1.Kids.map api_Node.pv)), (24, .int .i64 (n_1.Kids.length : Int)), (25, .int .i64 v_12)], [(1000, 0, .var 107 [.selfP 1000 0, .row 1001 g1001 v_13.length]), (1001, g1001, .bytes 5 v_13)], nx⟩ := by
          intro suf
          induction suf with
          | nil =>
            intro pre v_12 v_13 hsplit hidx hh nx g1001
            rw [codec_write_x_l0] at hh
            refine hI _ ?_
            have h15 := walk_nil hsplit hidx
            refine awp_first fun K kk hK => ?_
            simp only [go_sem]
            refine hK _ _ fun nx => ?_; clear hK K; try clear kk
            refine awp_seq ?_
            refine awp_false (by first | exact congrArg PV.bool h15 | rfl) ?_
            refine awp_exit ?_; refine nmx ?_
            refine fragN ?_
            refine cut_id ?_
            refine ⟨_, (Option.some.inj hh), ?_⟩
            first | exact ⟨_, _, _, _, rfl⟩ | (simp only [api_Attr.pv_eq, api_Node.pv_eq, step_Step.pv_eq, diptychref11_Step.pv_eq, pvL, List.map_cons, List.map_nil, List.map_append, rune1]; exact ⟨_, _, _, _, rfl⟩) | (simp only [api_Attr.pv_eq, api_Node.pv_eq, step_Step.pv_eq, diptychref11_Step.pv_eq, pvL, List.map_cons, List.map_nil, List.map_append, rune1, h1, h15]; exact ⟨_, _, _, _, rfl⟩)
          | cons y_16 suf ih =>
            intro pre v_12 v_13 hsplit hidx hh nx g1001
            rw [codec_write_x_l0] at hh
            refine hI _ ?_
            obtain ⟨hl0a, hl0b, hl0d, hl0w, h15⟩ := walk_cons (f := api_Node.pv) hsplit hidx hlen0
            refine awp_first fun K kk hK => ?_
            simp only [go_sem]
            refine hK _ _ fun nx => ?_; clear hK K; try clear kk
            refine awp_seq ?_
            refine awp_true (by first | exact congrArg PV.bool h15 | rfl) ?_
            refine awp_skip ?_; refine nmx ?_
            refine awp_seq ?_
            refine awp_block ?_
            refine awp_first fun K kk hK => ?_
            simp only [go_sem, hl0a, hl0b, hl0d, hl0w]
            refine hK _ _ fun nx => ?_; clear hK K; try clear kk
            obtain ⟨l_17, h16, hh⟩ := bind_ex hh
            refine awp_region fun K kk hK => ?_
            simp only [go_sem, hl0a, hl0b, hl0d, hl0w]
            refine step_callC [1000, 1001] (by decide) (ih_codec_write_x _ _ _ h16) (by (try simp only [go_sem, hl0a, hl0b, hl0d, hl0w, h1, h15]) <;> exact wkb) (by rfl) ?_
            simp only [go_sem, hl0a, hl0b, hl0d, hl0w]
            refine hK _ _ fun nx => ?_; clear hK K; try clear kk
            refine nmx ?_
            refine awp_region fun K kk hK => ?_
            simp only [go_sem, hl0a, hl0b, hl0d, hl0w]
            refine hK _ _ fun nx => ?_; clear hK K; try clear kk
            refine nmx ?_
            have ih' := ih (pre ++ [y_16]) (v_12 + 1) _ (by rw [hsplit]; simp) (by simp [hidx]) hh nx
            refine cut_id ?_
            first | exact ih' _ | (simp only [api_Attr.pv_eq, api_Node.pv_eq, step_Step.pv_eq, diptychref11_Step.pv_eq, pvL, List.map_cons, List.map_nil, List.map_append, rune1] at ih' ⊢; exact ih' _) | (simp only [api_Attr.pv_eq, api_Node.pv_eq, step_Step.pv_eq, diptychref11_Step.pv_eq, pvL, List.map_cons, List.map_nil, List.map_append, rune1, h1, h15] at ih' ⊢; exact ih' _)
        exact key n_1.Kids [] _ _ rfl rfl f0 _ _
      · rintro s ⟨t, hless, v_20, rfl, v_18, v_19, nx, g1001, rfl⟩
        try dsimp only at hh
        refine nmy ?_
        first | (refine cut_less hless ?_; try refine cut_awp ?_) | refine frag_less hless ?_ | refine body_less hless ?_
        obtain ⟨⟨r_21, l_22⟩, h17, hh⟩ := bind_ex hh
        dsimp only at hh
        refine awp_region fun K kk hK => ?_
        simp only [go_sem]
        refine step_callC [1000, 1001] (by decide) (strings_Builder_WriteString_x_ok _ _ _ h17) (by (try simp only [go_sem, h1]) <;> exact wkb) (by rfl) ?_
        simp only [go_sem]
        refine hK _ _ fun nx => ?_; clear hK K; try clear kk
        refine nmx ?_
        obtain hR := Option.some.inj hh
        subst hR
        refine body_end ?_
        refine ret_pureB ?_ (by rfl) ?_
        · simp only [go_sem, rvsRes, rvRes, cellRes, tupOf, pur2, List.map_cons, List.map_append, List.head?_cons, h1]
          all_goals exact wkw
        · (try simp only [go_sem, h1]); (try simp only [List.length_append, List.map_append]); all_goals exact wkb
      · intro i s h; exact h.elim
      · intro s h; exact h.elim
theorem codec_write_x_ok (n_1 : api_Node) (l_2 : (List UInt8)) (R : (List UInt8)) (hh : codec_write_x n_1 l_2 = some R) : BC Tryz.prog 135 [.box 1000 0 0, .agg [.str n_1.Kind, .str n_1.Text, .list 1 (n_1.Marks.map PV.str), .list 2 (n_1.Attrs.map api_Attr.pv), .list 5 (n_1.Kids.map api_Node.pv)]] [.var 107 [.selfP 1000 0, .row 1001 0 l_2.length], .bytes 5 l_2] (.tup []) [.var 107 [.selfP 1000 0, .row 1001 0 R.length], .movedB 5 R] := by
  rw [codec_write_x] at hh
  obtain ⟨kr, hh⟩ := lim_some hh
  exact (codec_write_x_grp kr) _ _ _ hh
theorem strings_Builder_String_x_ok (l : Str) (R : (Str × (List UInt8))) (hh : strings_Builder_String_x l = some R) : BC Tryz.prog 67 [.box 1000 0 0] [.var 107 [.selfP 1000 0, .row 1001 0 l.length], .bytes 5 l] (.str R.1) [.var 107 [.selfP 1000 0, .undef], .gone] := by
  rw [strings_Builder_String_x] at hh
  exact lib_builderString (ρ := Tryz.lays169_ren) Tryz.lays169 Tryz.Builder_Extra_169 ⟨_, Tryz.func67, by kernel_rfl, by kernel_rfl⟩ l R hh
theorem codec_Print_ok (n_1 : api_Node) (R : (Str × Int)) (hh : codec_Print n_1 = some R) : PC Tryz.prog 101 [.agg [.str n_1.Kind, .str n_1.Text, .list 1 (n_1.Marks.map PV.str), .list 2 (n_1.Attrs.map api_Attr.pv), .list 5 (n_1.Kids.map api_Node.pv)]] (.tup [.str R.1, .int .i64 R.2]) := by
  rw [codec_Print] at hh
  refine start_codec_Print rfl ?_
  refine awp_first fun K kk hK => ?_
  simp only [go_sem]
  refine hK _ _ fun nx => ?_; clear hK K; try clear kk
  refine awp_seq ?_
  obtain ⟨check_2, h1, hh⟩ := bind_ex hh
  refine awp_first fun K kk hK => ?_
  simp only [go_sem]
  refine step_call2 (node_Check_ok _ _ h1) (by (try simp only [go_sem]) <;> exact wkl) (by rfl) (by rfl) ?_
  simp only [go_sem]
  refine hK _ _ fun nx => ?_; clear hK K; try clear kk
  refine awp_first fun K kk hK => ?_
  simp only [go_sem]
  refine hK _ _ fun nx => ?_; clear hK K; try clear kk
  by_cases h2 : (check_2 != (0 : Int)) = true
  · rw [if_pos h2] at hh
    refine awp_true (by first | exact congrArg PV.bool h2 | rfl) ?_
    refine awp_first fun K kk hK => ?_
    simp only [go_sem]
    refine hK _ _ fun nx => ?_; clear hK K; try clear kk
    refine awp_ret ?_; refine nmx ?_
    obtain hR := Option.some.inj hh
    subst hR
    exact ret_p2
  · rw [if_neg h2] at hh
    replace h2 := Bool.eq_false_iff.mpr h2
    refine awp_false (by first | exact congrArg PV.bool h2 | rfl) ?_
    refine awp_skip ?_; refine nmx ?_
    refine awp_first fun K kk hK => ?_
    simp only [go_sem]
    refine hK _ _ fun nx => ?_; clear hK K; try clear kk
    obtain ⟨l_3, h3, hh⟩ := bind_ex hh
    refine awp_first fun K kk hK => ?_
    simp only [go_sem]
    refine step_callC [5, 336] (by decide) (codec_write_x_ok _ _ _ h3) (by (try simp only [go_sem, h2]) <;> exact wkb) (by rfl) ?_
    simp only [go_sem]
    refine hK _ _ fun nx => ?_; clear hK K; try clear kk
    obtain ⟨⟨r_4, l_5⟩, h4, hh⟩ := bind_ex hh
    dsimp only at hh
    refine awp_first fun K kk hK => ?_
    simp only [go_sem]
    refine step_callC [5, 336] (by decide) (strings_Builder_String_x_ok _ _ h4) (by (try simp only [go_sem, h2]) <;> exact wkb) (by rfl) ?_
    simp only [go_sem]
    refine hK _ _ fun nx => ?_; clear hK K; try clear kk
    refine awp_ret ?_; refine nmx ?_
    obtain hR := Option.some.inj hh
    subst hR
    exact ret_p2
theorem codec_PrintAll_ok (l_1 : (List api_Node)) (R : (Str × Int)) (hh : codec_PrintAll l_1 = some R) : PC Tryz.prog 62 [.list 5 (l_1.map api_Node.pv)] (.tup [.str R.1, .int .i64 R.2]) := by
  rw [codec_PrintAll] at hh
  refine start_codec_PrintAll rfl ?_
  refine awp_first fun K kk hK => ?_
  simp only [go_sem]
  refine hK _ _ fun nx => ?_; clear hK K; try clear kk
  obtain ⟨⟨r_2, r_3⟩, h1, hh⟩ := bind_ex hh
  dsimp only at hh
  refine awp_first fun K kk hK => ?_
  simp only [go_sem]
  refine step_call2 (codec_Print_ok _ _ h1) (by (try simp only [go_sem]) <;> exact wkl) (by rfl) (by rfl) ?_
  simp only [go_sem]
  refine hK _ _ fun nx => ?_; clear hK K; try clear kk
  refine awp_seq ?_
  refine awp_first fun K kk hK => ?_
  simp only [go_sem]
  refine hK _ _ fun nx => ?_; clear hK K; try clear kk
  by_cases h2 : (r_3 != (0 : Int)) = true
  · rw [if_pos h2] at hh
    refine awp_true (by first | exact congrArg PV.bool h2 | rfl) ?_
    refine awp_first fun K kk hK => ?_
    simp only [go_sem]
    refine hK _ _ fun nx => ?_; clear hK K; try clear kk
    refine awp_ret ?_; refine nmx ?_
    obtain hR := Option.some.inj hh
    subst hR
    exact ret_p2
  · rw [if_neg h2] at hh
    replace h2 := Bool.eq_false_iff.mpr h2
    refine awp_false (by first | exact congrArg PV.bool h2 | rfl) ?_
    refine awp_skip ?_; refine nmx ?_
    obtain ⟨s_4, h3, hh⟩ := bind_ex hh
    obtain ⟨h3a, h3c⟩ := sl_some h3
    have h3g := sl_le h3a
    have h3d := id h3c
    try simp only [Int.toNat_natCast, Int.reduceToNat] at h3d
    refine awp_first fun K kk hK => ?_
    simp only [go_sem, h3a.1, h3a.2.1, h3a.2.2, h3d, h3g]
    (repeat refine sd ?_)
    refine hK _ _ fun nx => ?_; clear hK K; try clear kk
    refine awp_ret ?_; refine nmx ?_
    obtain hR := Option.some.inj hh
    subst hR
    exact ret_p2
theorem strconv_Itoa_ok (n : Int) (R : Str) (hh : strconv_Itoa n = some R) : PC Tryz.prog 102 [.int .i64 n] (.str R) := by
  rw [strconv_Itoa] at hh
  exact lib_itoa ⟨_, Tryz.func102, by kernel_rfl, by kernel_rfl⟩ (fun n w h0 h1 hw => Tryz.strconv_Itoa n h0 h1 w (tab_of hw)) n R hh
theorem wire_write_ok (s_1 : step_Step) (nodes_2 : Str) (R : Str) (hh : wire_write s_1 nodes_2 = some R) : PC Tryz.prog 63 [.agg [.int .u8 s_1.Kind, .int .i64 s_1.From, .int .i64 s_1.To, .list 5 (s_1.Nodes.map api_Node.pv), .str s_1.Name, .str s_1.Value], .str nodes_2] (.str R) := by
  rw [wire_write] at hh
  refine start_wire_write rfl ?_
  refine awp_first fun K kk hK => ?_
  simp only [go_sem]
  refine hK _ _ fun nx => ?_; clear hK K; try clear kk
  obtain ⟨itoa_3, h1, hh⟩ := bind_ex hh
  obtain ⟨itoa_4, h2, hh⟩ := bind_ex hh
  refine awp_first fun K kk hK => ?_
  simp only [go_sem]
  refine step_call2 (strconv_Itoa_ok _ _ h1) (by (try simp only [go_sem]) <;> exact wkl) (by rfl) (by rfl) ?_
  simp only [go_sem]
  refine step_call2 (strconv_Itoa_ok _ _ h2) (by (try simp only [go_sem]) <;> exact wkl) (by rfl) (by rfl) ?_
  simp only [go_sem]
  refine hK _ _ fun nx => ?_; clear hK K; try clear kk
  refine awp_first fun K kk hK => ?_
  simp only [go_sem]
  refine hK _ _ fun nx => ?_; clear hK K; try clear kk
  refine awp_seq ?_
  refine awp_first fun K kk hK => ?_
  simp only [go_sem]
  refine hK _ _ fun nx => ?_; clear hK K; try clear kk
  refine awp_block ?_
  refine awp_first fun K kk hK => ?_
  simp only [go_sem]
  refine hK _ _ fun nx => ?_; clear hK K; try clear kk
  by_cases h3 : (s_1.Kind == (114 : Int)) = true
  · rw [if_pos h3] at hh
    refine awp_true (by first | exact congrArg PV.bool h3 | rfl) ?_
    refine awp_first fun K kk hK => ?_
    simp only [go_sem]
    refine hK _ _ fun nx => ?_; clear hK K; try clear kk
    refine awp_first fun K kk hK => ?_
    simp only [go_sem]
    refine hK _ _ fun nx => ?_; clear hK K; try clear kk
    by_cases h4 : (!(nodes_2 == ([] : Str))) = true
    · rw [if_pos h4] at hh
      refine awp_true (by first | exact congrArg PV.bool h4 | rfl) ?_
      obtain ⟨l_5, h5, hh⟩ := bind_ex hh
      obtain ⟨h5a, h5c⟩ := app_some h5
      have h5d := app_map (f := PV.str) h5c
      have h5e := (app_len h5c).symm
      try simp only [List.length_cons, List.length_nil, Nat.zero_add, Nat.reduceAdd] at h5a h5e
      try simp only [List.map_cons, List.map_nil, List.nil_append, List.append_nil, List.cons_append, List.singleton_append, rune1, api_Attr.pv_eq, api_Node.pv_eq, step_Step.pv_eq, diptychref11_Step.pv_eq, pvL] at h5d
      have h5g := take_lit (f := PV.str) h5e
      have h5h := le_lit h5e h5a
      refine awp_region fun K kk hK => ?_
      simp only [go_sem, h5a, h5d, eq_true h5e, eq_true (Nat.le_of_eq h5e.symm), h5g]
      (repeat refine sd ?_)
      refine hK _ _ fun nx => ?_; clear hK K; try clear kk
      refine nmx ?_
      obtain ⟨join_6, h6, hh⟩ := bind_ex hh
      refine awp_first fun K kk hK => ?_
      simp only [go_sem, eq_true h5e, eq_true (Nat.le_of_eq h5e.symm), h5g]
      refine step_call2 (strings_Join_ok _ _ _ h6) (by (try simp only [go_sem, eq_true h5e, eq_true (Nat.le_of_eq h5e.symm), h5g]) <;> exact wkl) (by rfl) (by rfl) ?_
      simp only [go_sem, eq_true h5e, eq_true (Nat.le_of_eq h5e.symm), h5g]
      refine hK _ _ fun nx => ?_; clear hK K; try clear kk
      refine awp_ret ?_; refine nmx ?_
      obtain hR := Option.some.inj hh
      subst hR
      exact ret_p2
    · rw [if_neg h4] at hh
      replace h4 := Bool.eq_false_iff.mpr h4
      refine awp_false (by first | exact congrArg PV.bool h4 | rfl) ?_
      refine awp_skip ?_; refine nmx ?_
      obtain ⟨join_7, h7, hh⟩ := bind_ex hh
      refine awp_first fun K kk hK => ?_
      simp only [go_sem]
      refine step_call2 (strings_Join_ok _ _ _ h7) (by (try simp only [go_sem]) <;> exact wkl) (by rfl) (by rfl) ?_
      simp only [go_sem]
      refine hK _ _ fun nx => ?_; clear hK K; try clear kk
      refine awp_ret ?_; refine nmx ?_
      obtain hR := Option.some.inj hh
      subst hR
      exact ret_p2
  · rw [if_neg h3] at hh
    replace h3 := Bool.eq_false_iff.mpr h3
    refine awp_false (by first | exact congrArg PV.bool h3 | rfl) ?_
    refine awp_first fun K kk hK => ?_
    simp only [go_sem]
    refine hK _ _ fun nx => ?_; clear hK K; try clear kk
    by_cases h8 : (s_1.Kind == (97 : Int)) = true
    · rw [if_pos h8] at hh
      refine awp_true (by first | exact congrArg PV.bool h8 | rfl) ?_
      obtain ⟨quote_8, h9, hh⟩ := bind_ex hh
      refine awp_region fun K kk hK => ?_
      simp only [go_sem]
      refine step_call2 (codec_Quote_ok _ _ h9) (by (try simp only [go_sem]) <;> exact wkl) (by rfl) (by rfl) ?_
      simp only [go_sem]
      refine hK _ _ fun nx => ?_; clear hK K; try clear kk
      refine nmx ?_
      obtain ⟨join_9, h10, hh⟩ := bind_ex hh
      refine awp_first fun K kk hK => ?_
      simp only [go_sem]
      refine step_call2 (strings_Join_ok _ _ _ h10) (by (try simp only [go_sem]) <;> exact wkl) (by rfl) (by rfl) ?_
      simp only [go_sem]
      refine hK _ _ fun nx => ?_; clear hK K; try clear kk
      refine awp_ret ?_; refine nmx ?_
      obtain hR := Option.some.inj hh
      subst hR
      exact ret_p2
    · rw [if_neg h8] at hh
      replace h8 := Bool.eq_false_iff.mpr h8
      refine awp_false (by first | exact congrArg PV.bool h8 | rfl) ?_
      refine awp_first fun K kk hK => ?_
      simp only [go_sem]
      refine hK _ _ fun nx => ?_; clear hK K; try clear kk
      by_cases h11 : (s_1.Kind == (109 : Int)) = true
      · rw [if_pos h11] at hh
        refine awp_true (by first | exact congrArg PV.bool h11 | rfl) ?_
        obtain ⟨x_10, h12, hh⟩ := bind_ex hh
        obtain ⟨h12a, h12b, h12c⟩ := rd_some h12
        have h12d := rd_get (f := PV.str) h12c
        have h12f := rd_more (f := PV.str) h12c
        try simp only [Int.toNat_natCast, Int.reduceToNat] at h12d h12f
        simp only [List.length_cons, List.length_nil, List.map_cons, List.map_nil, Nat.zero_add, Nat.reduceAdd, reduceCtorEq, not_false_eq_true, and_true, api_Attr.pv_eq, api_Node.pv_eq, step_Step.pv_eq, diptychref11_Step.pv_eq, pvL] at h12b h12d h12f
        obtain ⟨l_11, h13, hh⟩ := bind_ex hh
        obtain ⟨h13a, h13c⟩ := wr_some h13
        have h13d := wr_map (f := PV.str) h13c
        try simp only [Int.toNat_natCast, Int.reduceToNat, List.map_cons, List.map_nil, List.cons_append, List.nil_append, List.singleton_append, api_Attr.pv_eq, api_Node.pv_eq, step_Step.pv_eq, diptychref11_Step.pv_eq, pvL] at h13d
        have h13e := wr_len h13c
        have h13bw := h13a.2; rw [h13e] at h13bw
        have h13l := h13e.symm
        simp only [List.length_cons, List.length_nil, Nat.zero_add, Nat.reduceAdd] at h13l
        have h13g := take_lit (f := PV.str) h13l
        refine awp_region fun K kk hK => ?_
        simp only [go_sem, h12a, h12b, h12d, h13a.1, h13a.2, h13d, h13e, h13bw, h12f, eq_true (Nat.le_of_eq h13l.symm), h13g]
        (repeat refine sd ?_)
        try simp only [go_sem, h12a, h12b, h12d, h13a.1, h13a.2, h13d, h13e, h13bw, h12f, eq_true (Nat.le_of_eq h13l.symm), h13g]
        refine hK _ _ fun nx => ?_; clear hK K; try clear kk
        refine nmx ?_
        obtain ⟨join_12, h14, hh⟩ := bind_ex hh
        refine awp_first fun K kk hK => ?_
        simp only [go_sem, eq_true (Nat.le_of_eq h13l.symm), h13g]
        refine step_call2 (strings_Join_ok _ _ _ h14) (by (try simp only [go_sem, eq_true (Nat.le_of_eq h13l.symm), h13g]) <;> exact wkl) (by rfl) (by rfl) ?_
        simp only [go_sem, eq_true (Nat.le_of_eq h13l.symm), h13g]
        refine hK _ _ fun nx => ?_; clear hK K; try clear kk
        refine awp_ret ?_; refine nmx ?_
        obtain hR := Option.some.inj hh
        subst hR
        exact ret_p2
      · rw [if_neg h11] at hh
        replace h11 := Bool.eq_false_iff.mpr h11
        refine awp_false (by first | exact congrArg PV.bool h11 | rfl) ?_
        refine awp_skip ?_; refine nmx ?_
        obtain ⟨join_13, h15, hh⟩ := bind_ex hh
        refine awp_first fun K kk hK => ?_
        simp only [go_sem]
        refine step_call2 (strings_Join_ok _ _ _ h15) (by (try simp only [go_sem]) <;> exact wkl) (by rfl) (by rfl) ?_
        simp only [go_sem]
        refine hK _ _ fun nx => ?_; clear hK K; try clear kk
        refine awp_ret ?_; refine nmx ?_
        obtain hR := Option.some.inj hh
        subst hR
        exact ret_p2
theorem wire_Print_ok (s_1 : step_Step) (R : (Str × Int)) (hh : wire_Print s_1 = some R) : PC Tryz.prog 25 [.agg [.int .u8 s_1.Kind, .int .i64 s_1.From, .int .i64 s_1.To, .list 5 (s_1.Nodes.map api_Node.pv), .str s_1.Name, .str s_1.Value]] (.tup [.str R.1, .int .i64 R.2]) := by
  rw [wire_Print] at hh
  refine start_wire_Print rfl ?_
  refine awp_first fun K kk hK => ?_
  simp only [go_sem]
  refine hK _ _ fun nx => ?_; clear hK K; try clear kk
  refine awp_seq ?_
  obtain ⟨right_2, h1, hh⟩ := bind_ex hh
  refine awp_first fun K kk hK => ?_
  simp only [go_sem]
  refine step_call2 (step_Right_ok _ _ h1) (by (try simp only [go_sem]) <;> exact wkl) (by rfl) (by rfl) ?_
  simp only [go_sem]
  refine hK _ _ fun nx => ?_; clear hK K; try clear kk
  by_cases h2 : (!right_2) = true
  · rw [if_pos h2] at hh
    refine awp_true (by first | exact congrArg PV.bool h2 | rfl) ?_
    refine awp_first fun K kk hK => ?_
    simp only [go_sem]
    refine hK _ _ fun nx => ?_; clear hK K; try clear kk
    refine awp_ret ?_; refine nmx ?_
    obtain hR := Option.some.inj hh
    subst hR
    exact ret_p2
  · rw [if_neg h2] at hh
    replace h2 := Bool.eq_false_iff.mpr h2
    refine awp_false (by first | exact congrArg PV.bool h2 | rfl) ?_
    refine awp_skip ?_; refine nmx ?_
    obtain ⟨⟨r_3, r_4⟩, h3, hh⟩ := bind_ex hh
    dsimp only at hh
    refine awp_first fun K kk hK => ?_
    simp only [go_sem]
    refine step_call2 (codec_PrintAll_ok _ _ h3) (by (try simp only [go_sem]) <;> exact wkl) (by rfl) (by rfl) ?_
    simp only [go_sem]
    refine hK _ _ fun nx => ?_; clear hK K; try clear kk
    refine awp_seq ?_
    refine awp_first fun K kk hK => ?_
    simp only [go_sem]
    refine hK _ _ fun nx => ?_; clear hK K; try clear kk
    by_cases h4 : (r_4 != (0 : Int)) = true
    · rw [if_pos h4] at hh
      refine awp_true (by first | exact congrArg PV.bool h4 | rfl) ?_
      refine awp_first fun K kk hK => ?_
      simp only [go_sem]
      refine hK _ _ fun nx => ?_; clear hK K; try clear kk
      refine awp_ret ?_; refine nmx ?_
      obtain hR := Option.some.inj hh
      subst hR
      exact ret_p2
    · rw [if_neg h4] at hh
      replace h4 := Bool.eq_false_iff.mpr h4
      refine awp_false (by first | exact congrArg PV.bool h4 | rfl) ?_
      refine awp_skip ?_; refine nmx ?_
      obtain ⟨write_5, h5, hh⟩ := bind_ex hh
      refine awp_first fun K kk hK => ?_
      simp only [go_sem]
      refine step_call2 (wire_write_ok _ _ _ h5) (by (try simp only [go_sem]) <;> exact wkl) (by rfl) (by rfl) ?_
      simp only [go_sem]
      refine hK _ _ fun nx => ?_; clear hK K; try clear kk
      refine awp_ret ?_; refine nmx ?_
      obtain hR := Option.some.inj hh
      subst hR
      exact ret_p2
theorem diptychlaw12_shown_ok (R : Bool) (hh : diptychlaw12_shown = some R) : PC Tryz.prog 23 [] (.bool R) := by
  rw [diptychlaw12_shown] at hh
  refine start_diptychlaw12_shown rfl ?_
  refine awp_first fun K kk hK => ?_
  simp only [go_sem]
  refine hK _ _ fun nx => ?_; clear hK K; try clear kk
  obtain ⟨⟨r_1, r_2⟩, h1, hh⟩ := bind_ex hh
  dsimp only at hh
  refine awp_first fun K kk hK => ?_
  simp only [go_sem]
  refine step_call2 (wire_Print_ok _ _ h1) (by (try simp only [go_sem]) <;> exact wkl) (by rfl) (by rfl) ?_
  simp only [go_sem]
  refine hK _ _ fun nx => ?_; clear hK K; try clear kk
  by_cases h2 : (r_1 == ([114, 101, 112, 108, 97, 99, 101, 32, 49, 32, 51, 32, 112, 91, 93] : Str)) = true
  · rw [if_pos h2] at hh
    refine awp_first fun K kk hK => ?_
    simp only [go_sem, h2, h2]
    (repeat refine sd ?_)
    refine hK _ _ fun nx => ?_; clear hK K; try clear kk
    refine awp_ret ?_; refine nmx ?_
    obtain hR := Option.some.inj hh
    subst hR
    exact ret_p2
  · rw [if_neg h2] at hh
    replace h2 := Bool.eq_false_iff.mpr h2
    refine awp_first fun K kk hK => ?_
    simp only [go_sem, h2, h2]
    (repeat refine sd ?_)
    refine hK _ _ fun nx => ?_; clear hK K; try clear kk
    refine awp_ret ?_; refine nmx ?_
    obtain hR := Option.some.inj hh
    subst hR
    exact ret_p2
theorem diptychlaw12_light_grp : ∀ kr : Nat, (∀ (n_1 : api_Node) (left_2 : Int) (R : Int), diptychlaw12_light_k kr n_1 left_2 = some R → PC Tryz.prog 61 [.agg [.str n_1.Kind, .str n_1.Text, .list 1 (n_1.Marks.map PV.str), .list 2 (n_1.Attrs.map api_Attr.pv), .list 5 (n_1.Kids.map api_Node.pv)], .int .i64 left_2] (.int .i64 R)) := by
  intro kr
  induction kr with
  | zero => exact (by intro n_1 left_2 R hh; rw [diptychlaw12_light_k] at hh; cases hh)
  | succ kr ih =>
    have ih_diptychlaw12_light := ih
    clear ih
    intro n_1 left_2 R hh
    rw [diptychlaw12_light_k] at hh
    refine start_diptychlaw12_light rfl ?_
    refine awp_first fun K kk hK => ?_
    simp only [go_sem]
    refine hK _ _ fun nx => ?_; clear hK K; try clear kk
    refine awp_first fun K kk hK => ?_
    simp only [go_sem]
    refine hK _ _ fun nx => ?_; clear hK K; try clear kk
    refine awp_seq ?_
    refine awp_first fun K kk hK => ?_
    simp only [go_sem]
    refine hK _ _ fun nx => ?_; clear hK K; try clear kk
    obtain ⟨e0, f0, hh⟩ := bind_ex hh
    obtain ⟨hlen0, f0⟩ := chk_some f0
    refine awp_fragE (CutTo (fun s => ∃ left_8, left_8 = e0 ∧ ∃ (i_9 : Int) (v_10 : Bool) (nx : Nat) (g2 : Nat), s = ⟨[(1, .int .i64 left_8), (2, .box 2 g2 0), (5, .int .i64 i_9), (26, .bool v_10)], [(2, g2, .var 28 [.str n_1.Kind, .str n_1.Text, .list 1 (n_1.Marks.map PV.str), .list 2 (n_1.Attrs.map api_Attr.pv), .list 5 (n_1.Kids.map api_Node.pv)])], nx⟩))
      (fun i s => False)
      (fun s => False) ?_ ?_ ?_ ?_
    · refine awp_block ?_
      refine awp_loopJ fun I hI => ?_
      have key : ∀ (suf pre : List Str) (i_5 : Int) (left_4 : Int), n_1.Marks = pre ++ suf → i_5 = (pre.length : Int) → diptychlaw12_light_l0 suf i_5 left_4 = some e0 → ∀ (nx : Nat) (g2 : Nat), I ⟨[(1, .int .i64 left_4), (2, .box 2 g2 0), (5, .int .i64 i_5)], [(2, g2, .var 28 [.str n_1.Kind, .str n_1.Text, .list 1 (n_1.Marks.map PV.str), .list 2 (n_1.Attrs.map api_Attr.pv), .list 5 (n_1.Kids.map api_Node.pv)])], nx⟩ := by
        intro suf
        induction suf with
        | nil =>
          intro pre i_5 left_4 hsplit hidx hh nx g2
          rw [diptychlaw12_light_l0] at hh
          refine hI _ ?_
          have h7 := walk_nil hsplit hidx
          refine awp_seq ?_
          refine awp_first fun K kk hK => ?_
          simp only [go_sem, h7, of_decide_eq_false h7, h7, of_decide_eq_false h7]
          (repeat refine sd ?_)
          refine hK _ _ fun nx => ?_; clear hK K; try clear kk
          refine awp_false rfl ?_
          refine awp_exit ?_; refine nmx ?_
          refine fragN ?_
          refine cut_id ?_
          refine ⟨_, (Option.some.inj hh), ?_⟩
          first | exact ⟨_, _, _, _, rfl⟩ | (simp only [api_Attr.pv_eq, api_Node.pv_eq, step_Step.pv_eq, diptychref11_Step.pv_eq, pvL, List.map_cons, List.map_nil, List.map_append, rune1]; exact ⟨_, _, _, _, rfl⟩) | (simp only [api_Attr.pv_eq, api_Node.pv_eq, step_Step.pv_eq, diptychref11_Step.pv_eq, pvL, List.map_cons, List.map_nil, List.map_append, rune1, h7]; exact ⟨_, _, _, _, rfl⟩)
        | cons y_7 suf ih =>
          intro pre i_5 left_4 hsplit hidx hh nx g2
          rw [diptychlaw12_light_l0] at hh
          refine hI _ ?_
          obtain ⟨hl0a, hl0b, hl0d, hl0w, h7⟩ := walk_cons (f := PV.str) hsplit hidx hlen0
          refine awp_seq ?_
          refine awp_first fun K kk hK => ?_
          simp only [go_sem, h7, of_decide_eq_true h7, h7, of_decide_eq_true h7, hl0a, hl0b, hl0d, hl0w]
          (repeat refine sd ?_)
          refine hK _ _ fun nx => ?_; clear hK K; try clear kk
          by_cases h8 : (decide (left_4 > (0 : Int))) = true
          · rw [if_pos h8] at hh
            refine awp_true (by first | exact congrArg PV.bool h8 | rfl) ?_
            refine awp_skip ?_; refine nmx ?_
            refine awp_seq ?_
            refine awp_block ?_
            refine awp_region fun K kk hK => ?_
            simp only [go_sem, hl0a, hl0b, hl0d, hl0w]
            refine hK _ _ fun nx => ?_; clear hK K; try clear kk
            refine nmx ?_
            refine awp_region fun K kk hK => ?_
            simp only [go_sem, hl0a, hl0b, hl0d, hl0w]
            refine hK _ _ fun nx => ?_; clear hK K; try clear kk
            refine nmx ?_
            have ih' := ih (pre ++ [y_7]) (i_5 + 1) _ (by rw [hsplit]; simp) (by simp [hidx]) hh nx
            refine cut_id ?_
            first | exact ih' _ | (simp only [api_Attr.pv_eq, api_Node.pv_eq, step_Step.pv_eq, diptychref11_Step.pv_eq, pvL, List.map_cons, List.map_nil, List.map_append, rune1] at ih' ⊢; exact ih' _) | (simp only [api_Attr.pv_eq, api_Node.pv_eq, step_Step.pv_eq, diptychref11_Step.pv_eq, pvL, List.map_cons, List.map_nil, List.map_append, rune1, h7, h8] at ih' ⊢; exact ih' _)
          · rw [if_neg h8] at hh
            replace h8 := Bool.eq_false_iff.mpr h8
            refine awp_false (by first | exact congrArg PV.bool h8 | rfl) ?_
            refine awp_exit ?_; refine nmx ?_
            refine fragN ?_
            refine cut_id ?_
            refine ⟨_, (Option.some.inj hh), ?_⟩
            first | exact ⟨_, _, _, _, rfl⟩ | (simp only [api_Attr.pv_eq, api_Node.pv_eq, step_Step.pv_eq, diptychref11_Step.pv_eq, pvL, List.map_cons, List.map_nil, List.map_append, rune1]; exact ⟨_, _, _, _, rfl⟩) | (simp only [api_Attr.pv_eq, api_Node.pv_eq, step_Step.pv_eq, diptychref11_Step.pv_eq, pvL, List.map_cons, List.map_nil, List.map_append, rune1, h7, h8]; exact ⟨_, _, _, _, rfl⟩)
      exact key n_1.Marks [] _ _ rfl rfl f0 _ _
    · rintro s ⟨t, hless, left_8, rfl, i_9, v_10, nx, g2, rfl⟩
      try dsimp only at hh
      refine nmy ?_
      first | (refine cut_less hless ?_; try refine cut_awp ?_) | refine frag_less hless ?_ | refine body_less hless ?_
      refine awp_seq ?_
      refine awp_first fun K kk hK => ?_
      simp only [go_sem]
      refine hK _ _ fun nx => ?_; clear hK K; try clear kk
      obtain ⟨e1, f1, hh⟩ := bind_ex hh
      obtain ⟨hlen1, f1⟩ := chk_some f1
      refine awp_fragE (CutTo (fun s => ∃ left_16, left_16 = e1 ∧ ∃ (i_17 : Int) (v_18 : Bool) (nx : Nat) (g2 : Nat), s = ⟨[(1, .int .i64 left_16), (2, .box 2 g2 0), (6, .int .i64 i_17), (46, .bool v_18)], [(2, g2, .var 28 [.str n_1.Kind, .str n_1.Text, .list 1 (n_1.Marks.map PV.str), .list 2 (n_1.Attrs.map api_Attr.pv), .list 5 (n_1.Kids.map api_Node.pv)])], nx⟩))
        (fun i s => False)
        (fun s => False) ?_ ?_ ?_ ?_
      · refine awp_block ?_
        refine awp_loopJ fun I hI => ?_
        have key : ∀ (suf pre : List api_Attr) (i_13 : Int) (left_12 : Int), n_1.Attrs = pre ++ suf → i_13 = (pre.length : Int) → diptychlaw12_light_l1 suf i_13 left_12 = some e1 → ∀ (nx : Nat) (g2 : Nat), I ⟨[(1, .int .i64 left_12), (2, .box 2 g2 0), (6, .int .i64 i_13)], [(2, g2, .var 28 [.str n_1.Kind, .str n_1.Text, .list 1 (n_1.Marks.map PV.str), .list 2 (n_1.Attrs.map api_Attr.pv), .list 5 (n_1.Kids.map api_Node.pv)])], nx⟩ := by
          intro suf
          induction suf with
          | nil =>
            intro pre i_13 left_12 hsplit hidx hh nx g2
            rw [diptychlaw12_light_l1] at hh
            refine hI _ ?_
            have h15 := walk_nil hsplit hidx
            refine awp_seq ?_
            refine awp_first fun K kk hK => ?_
            simp only [go_sem, h15, of_decide_eq_false h15, h15, of_decide_eq_false h15]
            (repeat refine sd ?_)
            refine hK _ _ fun nx => ?_; clear hK K; try clear kk
            refine awp_false rfl ?_
            refine awp_exit ?_; refine nmx ?_
            refine fragN ?_
            refine cut_id ?_
            refine ⟨_, (Option.some.inj hh), ?_⟩
            first | exact ⟨_, _, _, _, rfl⟩ | (simp only [api_Attr.pv_eq, api_Node.pv_eq, step_Step.pv_eq, diptychref11_Step.pv_eq, pvL, List.map_cons, List.map_nil, List.map_append, rune1]; exact ⟨_, _, _, _, rfl⟩) | (simp only [api_Attr.pv_eq, api_Node.pv_eq, step_Step.pv_eq, diptychref11_Step.pv_eq, pvL, List.map_cons, List.map_nil, List.map_append, rune1, h15]; exact ⟨_, _, _, _, rfl⟩)
          | cons y_15 suf ih =>
            intro pre i_13 left_12 hsplit hidx hh nx g2
            rw [diptychlaw12_light_l1] at hh
            refine hI _ ?_
            obtain ⟨hl1a, hl1b, hl1d, hl1w, h15⟩ := walk_cons (f := api_Attr.pv) hsplit hidx hlen1
            refine awp_seq ?_
            refine awp_first fun K kk hK => ?_
            simp only [go_sem, h15, of_decide_eq_true h15, h15, of_decide_eq_true h15, hl1a, hl1b, hl1d, hl1w]
            (repeat refine sd ?_)
            refine hK _ _ fun nx => ?_; clear hK K; try clear kk
            by_cases h16 : (decide (left_12 > (0 : Int))) = true
            · rw [if_pos h16] at hh
              refine awp_true (by first | exact congrArg PV.bool h16 | rfl) ?_
              refine awp_skip ?_; refine nmx ?_
              refine awp_seq ?_
              refine awp_block ?_
              refine awp_region fun K kk hK => ?_
              simp only [go_sem, hl1a, hl1b, hl1d, hl1w]
              refine hK _ _ fun nx => ?_; clear hK K; try clear kk
              refine nmx ?_
              refine awp_region fun K kk hK => ?_
              simp only [go_sem, hl1a, hl1b, hl1d, hl1w]
              refine hK _ _ fun nx => ?_; clear hK K; try clear kk
              refine nmx ?_
              have ih' := ih (pre ++ [y_15]) (i_13 + 1) _ (by rw [hsplit]; simp) (by simp [hidx]) hh nx
              refine cut_id ?_
              first | exact ih' _ | (simp only [api_Attr.pv_eq, api_Node.pv_eq, step_Step.pv_eq, diptychref11_Step.pv_eq, pvL, List.map_cons, List.map_nil, List.map_append, rune1] at ih' ⊢; exact ih' _) | (simp only [api_Attr.pv_eq, api_Node.pv_eq, step_Step.pv_eq, diptychref11_Step.pv_eq, pvL, List.map_cons, List.map_nil, List.map_append, rune1, h15, h16] at ih' ⊢; exact ih' _)
            · rw [if_neg h16] at hh
              replace h16 := Bool.eq_false_iff.mpr h16
              refine awp_false (by first | exact congrArg PV.bool h16 | rfl) ?_
              refine awp_exit ?_; refine nmx ?_
              refine fragN ?_
              refine cut_id ?_
              refine ⟨_, (Option.some.inj hh), ?_⟩
              first | exact ⟨_, _, _, _, rfl⟩ | (simp only [api_Attr.pv_eq, api_Node.pv_eq, step_Step.pv_eq, diptychref11_Step.pv_eq, pvL, List.map_cons, List.map_nil, List.map_append, rune1]; exact ⟨_, _, _, _, rfl⟩) | (simp only [api_Attr.pv_eq, api_Node.pv_eq, step_Step.pv_eq, diptychref11_Step.pv_eq, pvL, List.map_cons, List.map_nil, List.map_append, rune1, h15, h16]; exact ⟨_, _, _, _, rfl⟩)
        exact key n_1.Attrs [] _ _ rfl rfl f1 _ _
      · rintro s ⟨t, hless, left_16, rfl, i_17, v_18, nx, g2, rfl⟩
        try dsimp only at hh
        refine nmy ?_
        first | (refine cut_less hless ?_; try refine cut_awp ?_) | refine frag_less hless ?_ | refine body_less hless ?_
        refine awp_seq ?_
        refine awp_first fun K kk hK => ?_
        simp only [go_sem]
        refine hK _ _ fun nx => ?_; clear hK K; try clear kk
        obtain ⟨e2, f2, hh⟩ := bind_ex hh
        obtain ⟨hlen2, f2⟩ := chk_some f2
        refine awp_fragE (CutTo (fun s => ∃ left_27, left_27 = e2 ∧ ∃ (i_28 : Int) (v_29 : Bool) (nx : Nat) (g2 : Nat), s = ⟨[(1, .int .i64 left_27), (2, .box 2 g2 0), (7, .int .i64 i_28), (75, .bool v_29)], [(2, g2, .var 28 [.str n_1.Kind, .str n_1.Text, .list 1 (n_1.Marks.map PV.str), .list 2 (n_1.Attrs.map api_Attr.pv), .list 5 (n_1.Kids.map api_Node.pv)])], nx⟩))
          (fun i s => False)
          (fun s => False) ?_ ?_ ?_ ?_
        · refine awp_block ?_
          refine awp_loopJ fun I hI => ?_
          have key : ∀ (suf pre : List api_Node) (i_22 : Int) (left_21 : Int), n_1.Kids = pre ++ suf → i_22 = (pre.length : Int) → diptychlaw12_light_l2 (diptychlaw12_light_k kr) suf i_22 left_21 = some e2 → ∀ (nx : Nat) (g2 : Nat), I ⟨[(1, .int .i64 left_21), (2, .box 2 g2 0), (7, .int .i64 i_22)], [(2, g2, .var 28 [.str n_1.Kind, .str n_1.Text, .list 1 (n_1.Marks.map PV.str), .list 2 (n_1.Attrs.map api_Attr.pv), .list 5 (n_1.Kids.map api_Node.pv)])], nx⟩ := by
            intro suf
            induction suf with
            | nil =>
              intro pre i_22 left_21 hsplit hidx hh nx g2
              rw [diptychlaw12_light_l2] at hh
              refine hI _ ?_
              have h25 := walk_nil hsplit hidx
              refine awp_seq ?_
              refine awp_first fun K kk hK => ?_
              simp only [go_sem, h25, of_decide_eq_false h25, h25, of_decide_eq_false h25]
              (repeat refine sd ?_)
              refine hK _ _ fun nx => ?_; clear hK K; try clear kk
              refine awp_false rfl ?_
              refine awp_exit ?_; refine nmx ?_
              refine fragN ?_
              refine cut_id ?_
              refine ⟨_, (Option.some.inj hh), ?_⟩
              first | exact ⟨_, _, _, _, rfl⟩ | (simp only [api_Attr.pv_eq, api_Node.pv_eq, step_Step.pv_eq, diptychref11_Step.pv_eq, pvL, List.map_cons, List.map_nil, List.map_append, rune1]; exact ⟨_, _, _, _, rfl⟩) | (simp only [api_Attr.pv_eq, api_Node.pv_eq, step_Step.pv_eq, diptychref11_Step.pv_eq, pvL, List.map_cons, List.map_nil, List.map_append, rune1, h25]; exact ⟨_, _, _, _, rfl⟩)
            | cons y_25 suf ih =>
              intro pre i_22 left_21 hsplit hidx hh nx g2
              rw [diptychlaw12_light_l2] at hh
              refine hI _ ?_
              obtain ⟨hl2a, hl2b, hl2d, hl2w, h25⟩ := walk_cons (f := api_Node.pv) hsplit hidx hlen2
              refine awp_seq ?_
              refine awp_first fun K kk hK => ?_
              simp only [go_sem, h25, of_decide_eq_true h25, h25, of_decide_eq_true h25, hl2a, hl2b, hl2d, hl2w]
              (repeat refine sd ?_)
              refine hK _ _ fun nx => ?_; clear hK K; try clear kk
              by_cases h26 : (decide (left_21 > (0 : Int))) = true
              · rw [if_pos h26] at hh
                refine awp_true (by first | exact congrArg PV.bool h26 | rfl) ?_
                refine awp_skip ?_; refine nmx ?_
                refine awp_seq ?_
                refine awp_block ?_
                obtain ⟨light_26, h27, hh⟩ := bind_ex hh
                refine awp_region fun K kk hK => ?_
                simp only [go_sem, hl2a, hl2b, hl2d, hl2w]
                refine step_call2 (ih_diptychlaw12_light _ _ _ h27) (by (try simp only [go_sem, hl2a, hl2b, hl2d, hl2w]) <;> exact wkl) (by rfl) (by rfl) ?_
                simp only [go_sem, hl2a, hl2b, hl2d, hl2w]
                refine hK _ _ fun nx => ?_; clear hK K; try clear kk
                refine nmx ?_
                refine awp_region fun K kk hK => ?_
                simp only [go_sem, hl2a, hl2b, hl2d, hl2w]
                refine hK _ _ fun nx => ?_; clear hK K; try clear kk
                refine nmx ?_
                have ih' := ih (pre ++ [y_25]) (i_22 + 1) _ (by rw [hsplit]; simp) (by simp [hidx]) hh nx
                refine cut_id ?_
                first | exact ih' _ | (simp only [api_Attr.pv_eq, api_Node.pv_eq, step_Step.pv_eq, diptychref11_Step.pv_eq, pvL, List.map_cons, List.map_nil, List.map_append, rune1] at ih' ⊢; exact ih' _) | (simp only [api_Attr.pv_eq, api_Node.pv_eq, step_Step.pv_eq, diptychref11_Step.pv_eq, pvL, List.map_cons, List.map_nil, List.map_append, rune1, h25, h26] at ih' ⊢; exact ih' _)
              · rw [if_neg h26] at hh
                replace h26 := Bool.eq_false_iff.mpr h26
                refine awp_false (by first | exact congrArg PV.bool h26 | rfl) ?_
                refine awp_exit ?_; refine nmx ?_
                refine fragN ?_
                refine cut_id ?_
                refine ⟨_, (Option.some.inj hh), ?_⟩
                first | exact ⟨_, _, _, _, rfl⟩ | (simp only [api_Attr.pv_eq, api_Node.pv_eq, step_Step.pv_eq, diptychref11_Step.pv_eq, pvL, List.map_cons, List.map_nil, List.map_append, rune1]; exact ⟨_, _, _, _, rfl⟩) | (simp only [api_Attr.pv_eq, api_Node.pv_eq, step_Step.pv_eq, diptychref11_Step.pv_eq, pvL, List.map_cons, List.map_nil, List.map_append, rune1, h25, h26]; exact ⟨_, _, _, _, rfl⟩)
          exact key n_1.Kids [] _ _ rfl rfl f2 _ _
        · rintro s ⟨t, hless, left_27, rfl, i_28, v_29, nx, g2, rfl⟩
          try dsimp only at hh
          refine nmy ?_
          first | (refine cut_less hless ?_; try refine cut_awp ?_) | refine frag_less hless ?_ | refine body_less hless ?_
          refine awp_seq ?_
          refine awp_first fun K kk hK => ?_
          simp only [go_sem]
          refine hK _ _ fun nx => ?_; clear hK K; try clear kk
          by_cases h28 : (decide (left_27 < (1 : Int))) = true
          · rw [if_pos h28] at hh
            refine awp_true (by first | exact congrArg PV.bool h28 | rfl) ?_
            refine awp_first fun K kk hK => ?_
            simp only [go_sem]
            refine hK _ _ fun nx => ?_; clear hK K; try clear kk
            refine awp_ret ?_; refine nmx ?_
            obtain hR := Option.some.inj hh
            subst hR
            exact ret_p2
          · rw [if_neg h28] at hh
            replace h28 := Bool.eq_false_iff.mpr h28
            refine awp_false (by first | exact congrArg PV.bool h28 | rfl) ?_
            refine awp_skip ?_; refine nmx ?_
            refine awp_first fun K kk hK => ?_
            simp only [go_sem]
            refine hK _ _ fun nx => ?_; clear hK K; try clear kk
            refine awp_ret ?_; refine nmx ?_
            obtain hR := Option.some.inj hh
            subst hR
            exact ret_p2
        · intro i s h; exact h.elim
        · intro s h; exact h.elim
      · intro i s h; exact h.elim
      · intro s h; exact h.elim
    · intro i s h; exact h.elim
    · intro s h; exact h.elim
theorem diptychlaw12_light_ok (n_1 : api_Node) (left_2 : Int) (R : Int) (hh : diptychlaw12_light n_1 left_2 = some R) : PC Tryz.prog 61 [.agg [.str n_1.Kind, .str n_1.Text, .list 1 (n_1.Marks.map PV.str), .list 2 (n_1.Attrs.map api_Attr.pv), .list 5 (n_1.Kids.map api_Node.pv)], .int .i64 left_2] (.int .i64 R) := by
  rw [diptychlaw12_light] at hh
  obtain ⟨kr, hh⟩ := lim_some hh
  exact (diptychlaw12_light_grp kr) _ _ _ hh

end Go.Proofs.YtclohbgnaopjfaaGreatDoor
