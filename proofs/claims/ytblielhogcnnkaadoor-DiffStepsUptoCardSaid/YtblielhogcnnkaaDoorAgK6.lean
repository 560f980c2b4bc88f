/- What the functions answer, the program answers (6). -/
import Derived.Test.YtblielhogcnnkaaDoorAgC
import Derived.Test.YtblielhogcnnkaaDoorAgF
import Derived.Test.YtblielhogcnnkaaDoorAgK2
import Derived.Test.YtblielhogcnnkaaDoorAgK3
import Derived.Test.YtblielhogcnnkaaDoorAgK4
import Derived.Test.YtblielhogcnnkaaDoorAgK5
namespace Go.Proofs.YtblielhogcnnkaaDoor
set_option linter.unusedSimpArgs false
set_option linter.unusedVariables false
open Go
set_option maxRecDepth 100000

theorem diptychref4_Inner_ok (n_1 : api_Node) (path_2 : (List Int)) (R : (api_Node × Int)) (hh : diptychref4_Inner n_1 path_2 = some R) : PC Tryd.prog 62 [.agg [.str n_1.Kind, .str n_1.Text, .list 1 (n_1.Marks.map PV.str), .list 2 (n_1.Attrs.map api_Attr.pv), .list 5 (n_1.Kids.map api_Node.pv)], .list 1 (path_2.map (PV.int .i64))] (.tup [.agg [.str R.1.Kind, .str R.1.Text, .list 1 (R.1.Marks.map PV.str), .list 2 (R.1.Attrs.map api_Attr.pv), .list 5 (R.1.Kids.map api_Node.pv)], .int .i64 R.2]) := by
  rw [diptychref4_Inner] at hh
  refine start_diptychref4_Inner rfl ?_
  refine awp_first fun K kk hK => ?_
  simp only [go_sem]
  refine hK _ _ fun nx => ?_; clear hK K; try clear kk
  refine awp_seq ?_
  refine awp_first fun K kk hK => ?_
  simp only [go_sem]
  refine hK _ _ fun nx => ?_; clear hK K; try clear kk
  obtain ⟨e0, f0, hh⟩ := bind_ex hh
  obtain ⟨hlen0, f0⟩ := chk_some f0
  refine awp_fragE (CutTo (fun s => ∃ n_14, .inr n_14 = e0 ∧ ∃ (i_12 : Int) (v_13 : Bool) (nx : Nat) (g2 : Nat) (g4 : Nat), s = ⟨[(1, .list 1 (path_2.map (PV.int .i64))), (2, .box 2 g2 0), (4, .box 4 g4 0), (6, .int .i64 i_12), (10, .bool v_13)], [(2, g2, .var 28 [.str n_14.Kind, .str n_14.Text, .list 1 (n_14.Marks.map PV.str), .list 2 (n_14.Attrs.map api_Attr.pv), .list 5 (n_14.Kids.map api_Node.pv)]), (4, g4, .var 28 [.str ([] : Str), .str ([] : Str), .list 1 ([].map PV.str), .list 2 ([].map api_Attr.pv), .list 5 ([].map api_Node.pv)])], nx⟩))
    (fun i s => False)
    (fun s => ∃ res_11, .inl res_11 = e0 ∧ bodyR Tryd.prog [.cell 4 28, .tmp 5] (.tup [.agg [.str res_11.1.Kind, .str res_11.1.Text, .list 1 (res_11.1.Marks.map PV.str), .list 2 (res_11.1.Attrs.map api_Attr.pv), .list 5 (res_11.1.Kids.map api_Node.pv)], .int .i64 res_11.2]) [] .ret s) ?_ ?_ ?_ ?_
  · refine awp_block ?_
    refine awp_loopJ fun I hI => ?_
    have key : ∀ (suf pre : List Int) (i_6 : Int) (n_5 : api_Node), path_2 = pre ++ suf → i_6 = (pre.length : Int) → diptychref4_Inner_l0 suf i_6 n_5 = some e0 → ∀ (nx : Nat) (g2 : Nat) (g4 : Nat), I ⟨[(1, .list 1 (path_2.map (PV.int .i64))), (2, .box 2 g2 0), (4, .box 4 g4 0), (6, .int .i64 i_6)], [(2, g2, .var 28 [.str n_5.Kind, .str n_5.Text, .list 1 (n_5.Marks.map PV.str), .list 2 (n_5.Attrs.map api_Attr.pv), .list 5 (n_5.Kids.map api_Node.pv)]), (4, g4, .var 28 [.str ([] : Str), .str ([] : Str), .list 1 ([].map PV.str), .list 2 ([].map api_Attr.pv), .list 5 ([].map api_Node.pv)])], nx⟩ := by
      intro suf
      induction suf with
      | nil =>
        intro pre i_6 n_5 hsplit hidx hh nx g2 g4
        rw [diptychref4_Inner_l0] at hh
        refine hI _ ?_
        have h13 := walk_nil hsplit hidx
        refine awp_seq ?_
        refine awp_first fun K kk hK => ?_
        simp only [go_sem]
        refine hK _ _ fun nx => ?_; clear hK K; try clear kk
        refine awp_false (by first | exact congrArg PV.bool h13 | rfl) ?_
        refine awp_exit ?_; refine nmx ?_
        refine fragN ?_
        refine cut_id ?_
        refine ⟨_, (Option.some.inj hh), ?_⟩
        first | exact ⟨_, _, _, _, _, rfl⟩ | (simp only [api_Attr.pv_eq, api_Node.pv_eq, step_Step.pv_eq, diff_change.pv_eq, diptychref11_Step.pv_eq, pvL, List.map_cons, List.map_nil, List.map_append, rune1]; exact ⟨_, _, _, _, _, rfl⟩) | (simp only [api_Attr.pv_eq, api_Node.pv_eq, step_Step.pv_eq, diff_change.pv_eq, diptychref11_Step.pv_eq, pvL, List.map_cons, List.map_nil, List.map_append, rune1, h13]; exact ⟨_, _, _, _, _, rfl⟩)
      | cons y_9 suf ih =>
        intro pre i_6 n_5 hsplit hidx hh nx g2 g4
        rw [diptychref4_Inner_l0] at hh
        refine hI _ ?_
        obtain ⟨hl0a, hl0b, hl0d, hl0w, h13⟩ := walk_cons (f := (PV.int .i64)) hsplit hidx hlen0
        refine awp_seq ?_
        refine awp_first fun K kk hK => ?_
        simp only [go_sem]
        refine hK _ _ fun nx => ?_; clear hK K; try clear kk
        refine awp_true (by first | exact congrArg PV.bool h13 | rfl) ?_
        refine awp_skip ?_; refine nmx ?_
        refine awp_seq ?_
        refine awp_block ?_
        refine awp_seq ?_
        by_cases h14 : (decide (y_9 < (0 : Int))) = true
        · rw [if_pos h14] at hh
          refine awp_first fun K kk hK => ?_
          simp only [go_sem, h14, of_decide_eq_true h14, h14, of_decide_eq_true h14, hl0a, hl0b, hl0d, hl0w]
          (repeat refine sd ?_)
          refine hK _ _ fun nx => ?_; clear hK K; try clear kk
          refine awp_true rfl ?_
          refine awp_first fun K kk hK => ?_
          simp only [go_sem, hl0a, hl0b, hl0d, hl0w]
          refine hK _ _ fun nx => ?_; clear hK K; try clear kk
          refine awp_ret ?_; refine nmx ?_
          refine fragR ⟨_, (Option.some.inj hh), ?_⟩
          exact ret_p2
        · rw [if_neg h14] at hh
          replace h14 := Bool.eq_false_iff.mpr h14
          by_cases h15 : (decide (y_9 ≥ (n_5.Kids.length : Int))) = true
          · rw [if_pos h15] at hh
            refine awp_first fun K kk hK => ?_
            simp only [go_sem, h14, of_decide_eq_false h14, h14, of_decide_eq_false h14, h15, of_decide_eq_true h15, h15, of_decide_eq_true h15, hl0a, hl0b, hl0d, hl0w]
            (repeat refine sd ?_)
            refine hK _ _ fun nx => ?_; clear hK K; try clear kk
            refine awp_true rfl ?_
            refine awp_first fun K kk hK => ?_
            simp only [go_sem, hl0a, hl0b, hl0d, hl0w]
            refine hK _ _ fun nx => ?_; clear hK K; try clear kk
            refine awp_ret ?_; refine nmx ?_
            refine fragR ⟨_, (Option.some.inj hh), ?_⟩
            exact ret_p2
          · rw [if_neg h15] at hh
            replace h15 := Bool.eq_false_iff.mpr h15
            refine awp_first fun K kk hK => ?_
            simp only [go_sem, h14, of_decide_eq_false h14, h14, of_decide_eq_false h14, h15, of_decide_eq_false h15, h15, of_decide_eq_false h15, hl0a, hl0b, hl0d, hl0w]
            (repeat refine sd ?_)
            refine hK _ _ fun nx => ?_; clear hK K; try clear kk
            by_cases h16 : (n_5.Kind == ([116, 101, 120, 116] : Str)) = true
            · rw [if_pos h16] at hh
              refine awp_true (by first | exact congrArg PV.bool h16 | rfl) ?_
              refine awp_first fun K kk hK => ?_
              simp only [go_sem, hl0a, hl0b, hl0d, hl0w]
              refine hK _ _ fun nx => ?_; clear hK K; try clear kk
              refine awp_ret ?_; refine nmx ?_
              refine fragR ⟨_, (Option.some.inj hh), ?_⟩
              exact ret_p2
            · rw [if_neg h16] at hh
              replace h16 := Bool.eq_false_iff.mpr h16
              refine awp_false (by first | exact congrArg PV.bool h16 | rfl) ?_
              refine awp_skip ?_; refine nmx ?_
              obtain ⟨x_10, h17, hh⟩ := bind_ex hh
              obtain ⟨h17a, h17b, h17c⟩ := rd_some h17
              have h17d := rd_get (f := api_Node.pv) h17c
              have h17f := rd_more (f := api_Node.pv) h17c
              try simp only [Int.toNat_natCast, Int.reduceToNat] at h17d h17f
              refine awp_region fun K kk hK => ?_
              simp only [go_sem, h17a, h17b, h17d, h17f.1, h17f.2, hl0a, hl0b, hl0d, hl0w]
              (repeat refine sd ?_)
              refine hK _ _ fun nx => ?_; clear hK K; try clear kk
              refine nmx ?_
              refine awp_region fun K kk hK => ?_
              simp only [go_sem, hl0a, hl0b, hl0d, hl0w]
              refine hK _ _ fun nx => ?_; clear hK K; try clear kk
              refine nmx ?_
              have ih' := ih (pre ++ [y_9]) (i_6 + 1) _ (by rw [hsplit]; simp) (by simp [hidx]) hh nx
              refine cut_id ?_
              first | exact ih' _ _ | (simp only [api_Attr.pv_eq, api_Node.pv_eq, step_Step.pv_eq, diff_change.pv_eq, diptychref11_Step.pv_eq, pvL, List.map_cons, List.map_nil, List.map_append, rune1] at ih' ⊢; exact ih' _ _) | (simp only [api_Attr.pv_eq, api_Node.pv_eq, step_Step.pv_eq, diff_change.pv_eq, diptychref11_Step.pv_eq, pvL, List.map_cons, List.map_nil, List.map_append, rune1, h13, h14, h15, h16] at ih' ⊢; exact ih' _ _)
    exact key path_2 [] _ _ rfl rfl f0 _ _ _
  · rintro s ⟨t, hless, n_14, rfl, i_12, v_13, nx, g2, g4, rfl⟩
    try dsimp only at hh
    refine nmy ?_
    first | (refine cut_less hless ?_; try refine cut_awp ?_) | refine frag_less hless ?_ | refine body_less hless ?_
    refine awp_seq ?_
    refine awp_first fun K kk hK => ?_
    simp only [go_sem]
    refine hK _ _ fun nx => ?_; clear hK K; try clear kk
    by_cases h18 : (n_14.Kind == ([116, 101, 120, 116] : Str)) = true
    · rw [if_pos h18] at hh
      refine awp_true (by first | exact congrArg PV.bool h18 | rfl) ?_
      refine awp_first fun K kk hK => ?_
      simp only [go_sem]
      refine hK _ _ fun nx => ?_; clear hK K; try clear kk
      refine awp_ret ?_; refine nmx ?_
      obtain hR := Option.some.inj hh
      subst hR
      exact ret_p2
    · rw [if_neg h18] at hh
      replace h18 := Bool.eq_false_iff.mpr h18
      refine awp_false (by first | exact congrArg PV.bool h18 | rfl) ?_
      refine awp_skip ?_; refine nmx ?_
      refine awp_first fun K kk hK => ?_
      simp only [go_sem]
      refine hK _ _ fun nx => ?_; clear hK K; try clear kk
      refine awp_ret ?_; refine nmx ?_
      obtain hR := Option.some.inj hh
      subst hR
      exact ret_p2
  · intro i s h; exact h.elim
  · rintro s ⟨res_11, rfl, hb⟩
    try dsimp only at hh
    obtain hR := Option.some.inj hh
    subst hR
    refine nmx ?_
    exact hb
theorem diptychref4_Start_ok (n_1 : api_Node) (path_2 : (List Int)) (R : (Int × Int)) (hh : diptychref4_Start n_1 path_2 = some R) : PC Tryd.prog 63 [.agg [.str n_1.Kind, .str n_1.Text, .list 1 (n_1.Marks.map PV.str), .list 2 (n_1.Attrs.map api_Attr.pv), .list 5 (n_1.Kids.map api_Node.pv)], .list 1 (path_2.map (PV.int .i64))] (.tup [.int .i64 R.1, .int .i64 R.2]) := by
  rw [diptychref4_Start] at hh
  refine start_diptychref4_Start rfl ?_
  refine awp_first fun K kk hK => ?_
  simp only [go_sem]
  refine hK _ _ fun nx => ?_; clear hK K; try clear kk
  obtain ⟨⟨r_3, r_4⟩, h1, hh⟩ := bind_ex hh
  dsimp only at hh
  refine awp_first fun K kk hK => ?_
  simp only [go_sem]
  refine step_call2 (diptychref4_Inner_ok _ _ _ h1) (by (try simp only [go_sem]) <;> exact wkl) (by rfl) (by rfl) ?_
  simp only [go_sem]
  refine hK _ _ fun nx => ?_; clear hK K; try clear kk
  refine awp_seq ?_
  refine awp_first fun K kk hK => ?_
  simp only [go_sem]
  refine hK _ _ fun nx => ?_; clear hK K; try clear kk
  by_cases h2 : (r_4 != (0 : Int)) = true
  · rw [if_pos h2] at hh
    refine awp_true (by first | exact congrArg PV.bool h2 | rfl) ?_
    refine awp_first fun K kk hK => ?_
    simp only [go_sem]
    refine hK _ _ fun nx => ?_; clear hK K; try clear kk
    refine awp_ret ?_; refine nmx ?_
    obtain hR := Option.some.inj hh
    subst hR
    exact ret_p2
  · rw [if_neg h2] at hh
    replace h2 := Bool.eq_false_iff.mpr h2
    refine awp_false (by first | exact congrArg PV.bool h2 | rfl) ?_
    refine awp_skip ?_; refine nmx ?_
    refine awp_first fun K kk hK => ?_
    simp only [go_sem]
    refine hK _ _ fun nx => ?_; clear hK K; try clear kk
    refine awp_seq ?_
    refine awp_first fun K kk hK => ?_
    simp only [go_sem]
    refine hK _ _ fun nx => ?_; clear hK K; try clear kk
    obtain ⟨e0, f0, hh⟩ := bind_ex hh
    obtain ⟨hlen0, f0⟩ := chk_some f0
    refine awp_fragE (CutTo (fun s => ∃ at_20, at_20 = e0 ∧ ∃ (i_21 : Int) (v_22 : Bool) (n_23 : api_Node) (nx : Nat) (g2 : Nat), s = ⟨[(1, .list 1 (path_2.map (PV.int .i64))), (2, .box 2 g2 0), (8, .int .i64 at_20), (9, .int .i64 i_21), (22, .bool v_22)], [(2, g2, .var 28 [.str n_23.Kind, .str n_23.Text, .list 1 (n_23.Marks.map PV.str), .list 2 (n_23.Attrs.map api_Attr.pv), .list 5 (n_23.Kids.map api_Node.pv)])], nx⟩))
      (fun i s => False)
      (fun s => False) ?_ ?_ ?_ ?_
    · refine awp_block ?_
      refine awp_loopJ fun I hI => ?_
      have key : ∀ (suf pre : List Int) (i_11 : Int) (at_10 : Int) (n_9 : api_Node), path_2 = pre ++ suf → i_11 = (pre.length : Int) → diptychref4_Start_l0 suf i_11 at_10 n_9 = some e0 → ∀ (nx : Nat) (g2 : Nat), I ⟨[(1, .list 1 (path_2.map (PV.int .i64))), (2, .box 2 g2 0), (8, .int .i64 at_10), (9, .int .i64 i_11)], [(2, g2, .var 28 [.str n_9.Kind, .str n_9.Text, .list 1 (n_9.Marks.map PV.str), .list 2 (n_9.Attrs.map api_Attr.pv), .list 5 (n_9.Kids.map api_Node.pv)])], nx⟩ := by
        intro suf
        induction suf with
        | nil =>
          intro pre i_11 at_10 n_9 hsplit hidx hh nx g2
          rw [diptychref4_Start_l0] at hh
          refine hI _ ?_
          have h13 := walk_nil hsplit hidx
          refine awp_seq ?_
          refine awp_first fun K kk hK => ?_
          simp only [go_sem]
          refine hK _ _ fun nx => ?_; clear hK K; try clear kk
          refine awp_false (by first | exact congrArg PV.bool h13 | rfl) ?_
          refine awp_exit ?_; refine nmx ?_
          refine fragN ?_
          refine cut_id ?_
          refine ⟨_, (Option.some.inj hh), ?_⟩
          first | exact ⟨_, _, _, _, _, rfl⟩ | (simp only [api_Attr.pv_eq, api_Node.pv_eq, step_Step.pv_eq, diff_change.pv_eq, diptychref11_Step.pv_eq, pvL, List.map_cons, List.map_nil, List.map_append, rune1]; exact ⟨_, _, _, _, _, rfl⟩) | (simp only [api_Attr.pv_eq, api_Node.pv_eq, step_Step.pv_eq, diff_change.pv_eq, diptychref11_Step.pv_eq, pvL, List.map_cons, List.map_nil, List.map_append, rune1, h13, h2]; exact ⟨_, _, _, _, _, rfl⟩)
        | cons y_16 suf ih =>
          intro pre i_11 at_10 n_9 hsplit hidx hh nx g2
          rw [diptychref4_Start_l0] at hh
          refine hI _ ?_
          obtain ⟨hl0a, hl0b, hl0d, hl0w, h13⟩ := walk_cons (f := (PV.int .i64)) hsplit hidx hlen0
          refine awp_seq ?_
          refine awp_first fun K kk hK => ?_
          simp only [go_sem]
          refine hK _ _ fun nx => ?_; clear hK K; try clear kk
          refine awp_true (by first | exact congrArg PV.bool h13 | rfl) ?_
          refine awp_skip ?_; refine nmx ?_
          refine awp_seq ?_
          refine awp_block ?_
          obtain ⟨s_17, h14, hh⟩ := bind_ex hh
          obtain ⟨h14a, h14c⟩ := sl_some h14
          have h14g := sl_le h14a
          have h14d := sl_map0 (f := api_Node.pv) h14c
          try simp only [Int.toNat_natCast, Int.reduceToNat, List.map_cons, List.map_nil, api_Attr.pv_eq, api_Node.pv_eq, step_Step.pv_eq, diff_change.pv_eq, diptychref11_Step.pv_eq, pvL] at h14d
          obtain ⟨total_18, h15, hh⟩ := bind_ex hh
          refine awp_first fun K kk hK => ?_
          simp only [go_sem, h14a.1, h14a.2.1, h14a.2.2, h14d, h14g, hl0a, hl0b, hl0d, hl0w]
          (repeat refine sd ?_)
          refine step_call2 (diptychref1_Total_ok _ _ h15) (by (try simp only [go_sem, h14a.1, h14a.2.1, h14a.2.2, h14d, h14g, hl0a, hl0b, hl0d, hl0w]) <;> exact wkl) (by rfl) (by rfl) ?_
          simp only [go_sem, h14a.1, h14a.2.1, h14a.2.2, h14d, h14g, hl0a, hl0b, hl0d, hl0w]
          (repeat refine sd ?_)
          refine hK _ _ fun nx => ?_; clear hK K; try clear kk
          obtain ⟨x_19, h16, hh⟩ := bind_ex hh
          obtain ⟨h16a, h16b, h16c⟩ := rd_some h16
          have h16d := rd_get (f := api_Node.pv) h16c
          have h16f := rd_more (f := api_Node.pv) h16c
          try simp only [Int.toNat_natCast, Int.reduceToNat] at h16d h16f
          refine awp_region fun K kk hK => ?_
          simp only [go_sem, h16a, h16b, h16d, h16f.1, h16f.2, hl0a, hl0b, hl0d, hl0w]
          (repeat refine sd ?_)
          refine hK _ _ fun nx => ?_; clear hK K; try clear kk
          refine nmx ?_
          refine awp_region fun K kk hK => ?_
          simp only [go_sem, hl0a, hl0b, hl0d, hl0w]
          refine hK _ _ fun nx => ?_; clear hK K; try clear kk
          refine nmx ?_
          have ih' := ih (pre ++ [y_16]) (i_11 + 1) _ _ (by rw [hsplit]; simp) (by simp [hidx]) hh nx
          refine cut_id ?_
          first | exact ih' _ | (simp only [api_Attr.pv_eq, api_Node.pv_eq, step_Step.pv_eq, diff_change.pv_eq, diptychref11_Step.pv_eq, pvL, List.map_cons, List.map_nil, List.map_append, rune1] at ih' ⊢; exact ih' _) | (simp only [api_Attr.pv_eq, api_Node.pv_eq, step_Step.pv_eq, diff_change.pv_eq, diptychref11_Step.pv_eq, pvL, List.map_cons, List.map_nil, List.map_append, rune1, h13, h2] at ih' ⊢; exact ih' _)
      exact key path_2 [] _ _ _ rfl rfl f0 _ _
    · rintro s ⟨t, hless, at_20, rfl, i_21, v_22, n_23, nx, g2, rfl⟩
      try dsimp only at hh
      refine nmy ?_
      first | (refine cut_less hless ?_; try refine cut_awp ?_) | refine frag_less hless ?_ | refine body_less hless ?_
      refine awp_first fun K kk hK => ?_
      simp only [go_sem]
      refine hK _ _ fun nx => ?_; clear hK K; try clear kk
      refine awp_ret ?_; refine nmx ?_
      obtain hR := Option.some.inj hh
      subst hR
      exact ret_p2
    · intro i s h; exact h.elim
    · intro s h; exact h.elim
theorem diptychref18_Steps_ok (a_1 : api_Node) (b_2 : api_Node) (R : ((List diptychref11_Step) × Int)) (hh : diptychref18_Steps a_1 b_2 = some R) : PC Tryd.prog 21 [.agg [.str a_1.Kind, .str a_1.Text, .list 1 (a_1.Marks.map PV.str), .list 2 (a_1.Attrs.map api_Attr.pv), .list 5 (a_1.Kids.map api_Node.pv)], .agg [.str b_2.Kind, .str b_2.Text, .list 1 (b_2.Marks.map PV.str), .list 2 (b_2.Attrs.map api_Attr.pv), .list 5 (b_2.Kids.map api_Node.pv)]] (.tup [.list 6 (R.1.map diptychref11_Step.pv), .int .i64 R.2]) := by
  rw [diptychref18_Steps] at hh
  refine start_diptychref18_Steps rfl ?_
  refine awp_first fun K kk hK => ?_
  simp only [go_sem]
  refine hK _ _ fun nx => ?_; clear hK K; try clear kk
  refine awp_seq ?_
  obtain ⟨check_3, h1, hh⟩ := bind_ex hh
  by_cases h2 : (check_3 != (0 : Int)) = true
  · rw [if_pos h2] at hh
    refine awp_first fun K kk hK => ?_
    simp only [go_sem, h2, h2]
    (repeat refine sd ?_)
    refine step_call2 (diptychref1_Check_ok _ _ h1) (by (try simp only [go_sem, h2, h2]) <;> exact wkl) (by rfl) (by rfl) ?_
    simp only [go_sem, h2, h2]
    (repeat refine sd ?_)
    refine hK _ _ fun nx => ?_; clear hK K; try clear kk
    refine awp_true rfl ?_
    refine awp_first fun K kk hK => ?_
    simp only [go_sem]
    refine hK _ _ fun nx => ?_; clear hK K; try clear kk
    refine awp_ret ?_; refine nmx ?_
    obtain hR := Option.some.inj hh
    subst hR
    exact ret_p2
  · rw [if_neg h2] at hh
    replace h2 := Bool.eq_false_iff.mpr h2
    obtain ⟨check_4, h3, hh⟩ := bind_ex hh
    by_cases h4 : (check_4 != (0 : Int)) = true
    · rw [if_pos h4] at hh
      refine awp_first fun K kk hK => ?_
      simp only [go_sem, h2, h2, h4, h4]
      (repeat refine sd ?_)
      refine step_call2 (diptychref1_Check_ok _ _ h1) (by (try simp only [go_sem, h2, h2, h4, h4]) <;> exact wkl) (by rfl) (by rfl) ?_
      simp only [go_sem, h2, h2, h4, h4]
      (repeat refine sd ?_)
      refine step_call2 (diptychref1_Check_ok _ _ h3) (by (try simp only [go_sem, h2, h2, h4, h4]) <;> exact wkl) (by rfl) (by rfl) ?_
      simp only [go_sem, h2, h2, h4, h4]
      (repeat refine sd ?_)
      refine hK _ _ fun nx => ?_; clear hK K; try clear kk
      refine awp_true rfl ?_
      refine awp_first fun K kk hK => ?_
      simp only [go_sem]
      refine hK _ _ fun nx => ?_; clear hK K; try clear kk
      refine awp_ret ?_; refine nmx ?_
      obtain hR := Option.some.inj hh
      subst hR
      exact ret_p2
    · rw [if_neg h4] at hh
      replace h4 := Bool.eq_false_iff.mpr h4
      obtain ⟨alike_5, h5, hh⟩ := bind_ex hh
      refine awp_first fun K kk hK => ?_
      simp only [go_sem, h2, h2, h4, h4]
      (repeat refine sd ?_)
      refine step_call2 (diptychref1_Check_ok _ _ h1) (by (try simp only [go_sem, h2, h2, h4, h4]) <;> exact wkl) (by rfl) (by rfl) ?_
      simp only [go_sem, h2, h2, h4, h4]
      (repeat refine sd ?_)
      refine step_call2 (diptychref1_Check_ok _ _ h3) (by (try simp only [go_sem, h2, h2, h4, h4]) <;> exact wkl) (by rfl) (by rfl) ?_
      simp only [go_sem, h2, h2, h4, h4]
      (repeat refine sd ?_)
      refine step_call2 (diptychref18_alike_ok _ _ _ h5) (by (try simp only [go_sem, h2, h2, h4, h4]) <;> exact wkl) (by rfl) (by rfl) ?_
      simp only [go_sem, h2, h2, h4, h4]
      (repeat refine sd ?_)
      refine hK _ _ fun nx => ?_; clear hK K; try clear kk
      by_cases h6 : (!alike_5) = true
      · rw [if_pos h6] at hh
        refine awp_true (by first | exact congrArg PV.bool h6 | rfl) ?_
        refine awp_first fun K kk hK => ?_
        simp only [go_sem]
        refine hK _ _ fun nx => ?_; clear hK K; try clear kk
        refine awp_ret ?_; refine nmx ?_
        obtain hR := Option.some.inj hh
        subst hR
        exact ret_p2
      · rw [if_neg h6] at hh
        replace h6 := Bool.eq_false_iff.mpr h6
        refine awp_false (by first | exact congrArg PV.bool h6 | rfl) ?_
        refine awp_skip ?_; refine nmx ?_
        refine awp_first fun K kk hK => ?_
        simp only [go_sem]
        refine hK _ _ fun nx => ?_; clear hK K; try clear kk
        obtain ⟨⟨r_6, r_7, r_8, r_9⟩, h7, hh⟩ := bind_ex hh
        dsimp only at hh
        refine awp_first fun K kk hK => ?_
        simp only [go_sem]
        refine step_call2 (diptychref18_Where_ok _ _ _ h7) (by (try simp only [go_sem]) <;> exact wkl) (by rfl) (by rfl) ?_
        simp only [go_sem]
        refine hK _ _ fun nx => ?_; clear hK K; try clear kk
        refine awp_seq ?_
        refine awp_first fun K kk hK => ?_
        simp only [go_sem]
        refine hK _ _ fun nx => ?_; clear hK K; try clear kk
        obtain ⟨e0, f0, hh⟩ := bind_ex hh
        refine awp_fragE (CutTo (fun s => ∃ out_60, out_60 = e0 ∧ ∃ (i_58 : Int) (v_59 : Bool) (nx : Nat) (g2 : Nat) (g3 : Nat) (g6 : Nat), s = ⟨[(2, .box 2 g2 0), (3, .box 3 g3 0), (6, .row 6 g6 out_60.length), (7, .list 1 (r_6.map (PV.int .i64))), (8, .int .i64 r_7), (9, .int .i64 r_8), (10, .int .i64 r_9), (11, .int .i64 i_58), (51, .bool v_59)], [(2, g2, .var 28 [.str a_1.Kind, .str a_1.Text, .list 1 (a_1.Marks.map PV.str), .list 2 (a_1.Attrs.map api_Attr.pv), .list 5 (a_1.Kids.map api_Node.pv)]), (3, g3, .var 28 [.str b_2.Kind, .str b_2.Text, .list 1 (b_2.Marks.map PV.str), .list 2 (b_2.Attrs.map api_Attr.pv), .list 5 (b_2.Kids.map api_Node.pv)]), (6, g6, .row false 6 (out_60.map diptychref11_Step.pv))], nx⟩))
          (fun i s => False)
          (fun s => False) ?_ ?_ ?_ ?_
        · refine awp_block ?_
          refine awp_loopJ fun I hI => ?_
          obtain ⟨k, f0⟩ := lim_some f0
          have key : ∀ (k : Nat) (i_33 : Int) (out_34 : (List diptychref11_Step)), diptychref18_Steps_l0 a_1 b_2 r_6 k i_33 out_34 = some e0 → ∀ (nx : Nat) (g2 : Nat) (g3 : Nat) (g6 : Nat), I ⟨[(2, .box 2 g2 0), (3, .box 3 g3 0), (6, .row 6 g6 out_34.length), (7, .list 1 (r_6.map (PV.int .i64))), (8, .int .i64 r_7), (9, .int .i64 r_8), (10, .int .i64 r_9), (11, .int .i64 i_33)], [(2, g2, .var 28 [.str a_1.Kind, .str a_1.Text, .list 1 (a_1.Marks.map PV.str), .list 2 (a_1.Attrs.map api_Attr.pv), .list 5 (a_1.Kids.map api_Node.pv)]), (3, g3, .var 28 [.str b_2.Kind, .str b_2.Text, .list 1 (b_2.Marks.map PV.str), .list 2 (b_2.Attrs.map api_Attr.pv), .list 5 (b_2.Kids.map api_Node.pv)]), (6, g6, .row false 6 (out_34.map diptychref11_Step.pv))], nx⟩ := by
            intro k
            induction k with
            | zero => intro i_33 out_34 hh; rw [diptychref18_Steps_l0] at hh; cases hh
            | succ k ih =>
              intro i_33 out_34 hh nx g2 g3 g6
              rw [diptychref18_Steps_l0] at hh
              refine hI _ ?_
              refine awp_seq ?_
              refine awp_first fun K kk hK => ?_
              simp only [go_sem]
              refine hK _ _ fun nx => ?_; clear hK K; try clear kk
              by_cases h29 : (decide (i_33 ≤ (r_6.length : Int))) = true
              · rw [if_pos h29] at hh
                refine awp_true (by first | exact congrArg PV.bool h29 | rfl) ?_
                refine awp_skip ?_; refine nmx ?_
                refine awp_seq ?_
                refine awp_block ?_
                obtain ⟨s_35, h30, hh⟩ := bind_ex hh
                obtain ⟨h30a, h30c⟩ := sl_some h30
                have h30g := sl_le h30a
                have h30d := sl_map0 (f := (PV.int .i64)) h30c
                try simp only [Int.toNat_natCast, Int.reduceToNat, List.map_cons, List.map_nil, api_Attr.pv_eq, api_Node.pv_eq, step_Step.pv_eq, diff_change.pv_eq, diptychref11_Step.pv_eq, pvL] at h30d
                obtain ⟨⟨r_36, r_37⟩, h31, hh⟩ := bind_ex hh
                dsimp only at hh
                refine awp_first fun K kk hK => ?_
                simp only [go_sem, h30a.1, h30a.2.1, h30a.2.2, h30d, h30g]
                (repeat refine sd ?_)
                refine step_call2 (diptychref4_Inner_ok _ _ _ h31) (by (try simp only [go_sem, h30a.1, h30a.2.1, h30a.2.2, h30d, h30g]) <;> exact wkl) (by rfl) (by rfl) ?_
                simp only [go_sem, h30a.1, h30a.2.1, h30a.2.2, h30d, h30g]
                (repeat refine sd ?_)
                refine hK _ _ fun nx => ?_; clear hK K; try clear kk
                obtain ⟨s_38, h32, hh⟩ := bind_ex hh
                obtain ⟨h32a, h32c⟩ := sl_some h32
                have h32g := sl_le h32a
                have h32d := sl_map0 (f := (PV.int .i64)) h32c
                try simp only [Int.toNat_natCast, Int.reduceToNat, List.map_cons, List.map_nil, api_Attr.pv_eq, api_Node.pv_eq, step_Step.pv_eq, diff_change.pv_eq, diptychref11_Step.pv_eq, pvL] at h32d
                obtain ⟨⟨r_39, r_40⟩, h33, hh⟩ := bind_ex hh
                dsimp only at hh
                refine awp_first fun K kk hK => ?_
                simp only [go_sem, h32a.1, h32a.2.1, h32a.2.2, h32d, h32g]
                (repeat refine sd ?_)
                refine step_call2 (diptychref4_Inner_ok _ _ _ h33) (by (try simp only [go_sem, h32a.1, h32a.2.1, h32a.2.2, h32d, h32g]) <;> exact wkl) (by rfl) (by rfl) ?_
                simp only [go_sem, h32a.1, h32a.2.1, h32a.2.2, h32d, h32g]
                (repeat refine sd ?_)
                refine hK _ _ fun nx => ?_; clear hK K; try clear kk
                obtain ⟨s_41, h34, hh⟩ := bind_ex hh
                obtain ⟨h34a, h34c⟩ := sl_some h34
                have h34g := sl_le h34a
                have h34d := sl_map0 (f := (PV.int .i64)) h34c
                try simp only [Int.toNat_natCast, Int.reduceToNat, List.map_cons, List.map_nil, api_Attr.pv_eq, api_Node.pv_eq, step_Step.pv_eq, diff_change.pv_eq, diptychref11_Step.pv_eq, pvL] at h34d
                obtain ⟨⟨r_42, r_43⟩, h35, hh⟩ := bind_ex hh
                dsimp only at hh
                refine awp_first fun K kk hK => ?_
                simp only [go_sem, h34a.1, h34a.2.1, h34a.2.2, h34d, h34g]
                (repeat refine sd ?_)
                refine step_call2 (diptychref4_Start_ok _ _ _ h35) (by (try simp only [go_sem, h34a.1, h34a.2.1, h34a.2.2, h34d, h34g]) <;> exact wkl) (by rfl) (by rfl) ?_
                simp only [go_sem, h34a.1, h34a.2.1, h34a.2.2, h34d, h34g]
                (repeat refine sd ?_)
                refine hK _ _ fun nx => ?_; clear hK K; try clear kk
                refine awp_first fun K kk hK => ?_
                simp only [go_sem]
                refine hK _ _ fun nx => ?_; clear hK K; try clear kk
                obtain ⟨e2, f2, hh⟩ := bind_ex hh
                obtain ⟨hlen2, f2⟩ := chk_some f2
                refine awp_fragE (CutTo (fun s => ∃ out_57, out_57 = e2 ∧ ∃ (k_55 : Int) (v_56 : Bool) (nx : Nat) (g2 : Nat) (g3 : Nat) (g6 : Nat) (g12 : Nat) (g14 : Nat), s = ⟨[(2, .box 2 g2 0), (3, .box 3 g3 0), (6, .row 6 g6 out_57.length), (7, .list 1 (r_6.map (PV.int .i64))), (8, .int .i64 r_7), (9, .int .i64 r_8), (10, .int .i64 r_9), (11, .int .i64 i_33), (12, .box 12 g12 0), (14, .box 14 g14 0), (16, .int .i64 r_42), (18, .int .i64 k_55), (82, .bool v_56)], [(2, g2, .var 28 [.str a_1.Kind, .str a_1.Text, .list 1 (a_1.Marks.map PV.str), .list 2 (a_1.Attrs.map api_Attr.pv), .list 5 (a_1.Kids.map api_Node.pv)]), (3, g3, .var 28 [.str b_2.Kind, .str b_2.Text, .list 1 (b_2.Marks.map PV.str), .list 2 (b_2.Attrs.map api_Attr.pv), .list 5 (b_2.Kids.map api_Node.pv)]), (6, g6, .row false 6 (out_57.map diptychref11_Step.pv)), (12, g12, .var 28 [.str r_36.Kind, .str r_36.Text, .list 1 (r_36.Marks.map PV.str), .list 2 (r_36.Attrs.map api_Attr.pv), .list 5 (r_36.Kids.map api_Node.pv)]), (14, g14, .var 28 [.str r_39.Kind, .str r_39.Text, .list 1 (r_39.Marks.map PV.str), .list 2 (r_39.Attrs.map api_Attr.pv), .list 5 (r_39.Kids.map api_Node.pv)])], nx⟩))
                  (fun i s => False)
                  (fun s => False) ?_ ?_ ?_ ?_
                · refine awp_block ?_
                  refine awp_loopJ fun I hI => ?_
                  have key : ∀ (suf pre : List api_Attr) (k_47 : Int) (out_48 : (List diptychref11_Step)), r_36.Attrs = pre ++ suf → k_47 = (pre.length : Int) → diptychref18_Steps_l2 r_39 r_42 suf k_47 out_48 = some e2 → ∀ (nx : Nat) (g2 : Nat) (g3 : Nat) (g6 : Nat) (g12 : Nat) (g14 : Nat), I ⟨[(2, .box 2 g2 0), (3, .box 3 g3 0), (6, .row 6 g6 out_48.length), (7, .list 1 (r_6.map (PV.int .i64))), (8, .int .i64 r_7), (9, .int .i64 r_8), (10, .int .i64 r_9), (11, .int .i64 i_33), (12, .box 12 g12 0), (14, .box 14 g14 0), (16, .int .i64 r_42), (18, .int .i64 k_47)], [(2, g2, .var 28 [.str a_1.Kind, .str a_1.Text, .list 1 (a_1.Marks.map PV.str), .list 2 (a_1.Attrs.map api_Attr.pv), .list 5 (a_1.Kids.map api_Node.pv)]), (3, g3, .var 28 [.str b_2.Kind, .str b_2.Text, .list 1 (b_2.Marks.map PV.str), .list 2 (b_2.Attrs.map api_Attr.pv), .list 5 (b_2.Kids.map api_Node.pv)]), (6, g6, .row false 6 (out_48.map diptychref11_Step.pv)), (12, g12, .var 28 [.str r_36.Kind, .str r_36.Text, .list 1 (r_36.Marks.map PV.str), .list 2 (r_36.Attrs.map api_Attr.pv), .list 5 (r_36.Kids.map api_Node.pv)]), (14, g14, .var 28 [.str r_39.Kind, .str r_39.Text, .list 1 (r_39.Marks.map PV.str), .list 2 (r_39.Attrs.map api_Attr.pv), .list 5 (r_39.Kids.map api_Node.pv)])], nx⟩ := by
                    intro suf
                    induction suf with
                    | nil =>
                      intro pre k_47 out_48 hsplit hidx hh nx g2 g3 g6 g12 g14
                      rw [diptychref18_Steps_l2] at hh
                      refine hI _ ?_
                      have h46 := walk_nil hsplit hidx
                      refine awp_seq ?_
                      refine awp_first fun K kk hK => ?_
                      simp only [go_sem]
                      refine hK _ _ fun nx => ?_; clear hK K; try clear kk
                      refine awp_false (by first | exact congrArg PV.bool h46 | rfl) ?_
                      refine awp_exit ?_; refine nmx ?_
                      refine fragN ?_
                      refine cut_id ?_
                      refine ⟨_, (Option.some.inj hh), ?_⟩
                      first | exact ⟨_, _, _, _, _, _, _, _, rfl⟩ | (simp only [api_Attr.pv_eq, api_Node.pv_eq, step_Step.pv_eq, diff_change.pv_eq, diptychref11_Step.pv_eq, pvL, List.map_cons, List.map_nil, List.map_append, rune1]; exact ⟨_, _, _, _, _, _, _, _, rfl⟩) | (simp only [api_Attr.pv_eq, api_Node.pv_eq, step_Step.pv_eq, diff_change.pv_eq, diptychref11_Step.pv_eq, pvL, List.map_cons, List.map_nil, List.map_append, rune1, h2, h29, h4, h46, h6]; exact ⟨_, _, _, _, _, _, _, _, rfl⟩)
                    | cons y_52 suf ih =>
                      intro pre k_47 out_48 hsplit hidx hh nx g2 g3 g6 g12 g14
                      rw [diptychref18_Steps_l2] at hh
                      refine hI _ ?_
                      obtain ⟨hl2a, hl2b, hl2d, hl2w, h46⟩ := walk_cons (f := api_Attr.pv) hsplit hidx hlen2
                      refine awp_seq ?_
                      refine awp_first fun K kk hK => ?_
                      simp only [go_sem]
                      refine hK _ _ fun nx => ?_; clear hK K; try clear kk
                      refine awp_true (by first | exact congrArg PV.bool h46 | rfl) ?_
                      refine awp_skip ?_; refine nmx ?_
                      refine awp_seq ?_
                      refine awp_block ?_
                      obtain ⟨x_53, h47, hh⟩ := bind_ex hh
                      obtain ⟨h47a, h47b, h47c⟩ := rd_some h47
                      have h47d := rd_get (f := api_Attr.pv) h47c
                      have h47f := rd_more (f := api_Attr.pv) h47c
                      try simp only [Int.toNat_natCast, Int.reduceToNat] at h47d h47f
                      refine awp_first fun K kk hK => ?_
                      simp only [go_sem, h47a, h47b, h47d, h47f.1, h47f.2, hl2a, hl2b, hl2d, hl2w]
                      (repeat refine sd ?_)
                      refine hK _ _ fun nx => ?_; clear hK K; try clear kk
                      by_cases h48 : (!(y_52.Value == x_53.Value)) = true
                      · rw [if_pos h48] at hh
                        refine awp_true (by first | exact congrArg PV.bool h48 | rfl) ?_
                        obtain ⟨l_54, h49, hh⟩ := bind_ex hh
                        obtain ⟨h49a, h49c⟩ := app_some h49
                        have h49d := app_map (f := diptychref11_Step.pv) h49c
                        have h49e := app_len h49c
                        try simp only [List.length_cons, List.length_nil, Nat.zero_add, Nat.reduceAdd] at h49a h49e
                        try simp only [h49e] at h49a
                        try simp only [List.map_cons, List.map_nil, List.nil_append, List.append_nil, List.cons_append, List.singleton_append, rune1, api_Attr.pv_eq, api_Node.pv_eq, step_Step.pv_eq, diff_change.pv_eq, diptychref11_Step.pv_eq, pvL] at h49d
                        refine awp_region fun K kk hK => ?_
                        simp only [go_sem, h47a, h47b, h47d, h47f.1, h47f.2, h49a, h49d, h49e, hl2a, hl2b, hl2d, hl2w]
                        (repeat refine sd ?_)
                        refine hK _ _ fun nx => ?_; clear hK K; try clear kk
                        refine nmx ?_
                        refine awp_region fun K kk hK => ?_
                        simp only [go_sem, hl2a, hl2b, hl2d, hl2w]
                        refine hK _ _ fun nx => ?_; clear hK K; try clear kk
                        refine nmx ?_
                        have ih' := ih (pre ++ [y_52]) (k_47 + 1) _ (by rw [hsplit]; simp) (by simp [hidx]) hh nx
                        refine cut_id ?_
                        first | exact ih' _ _ _ _ _ | (simp only [api_Attr.pv_eq, api_Node.pv_eq, step_Step.pv_eq, diff_change.pv_eq, diptychref11_Step.pv_eq, pvL, List.map_cons, List.map_nil, List.map_append, rune1, h49e] at ih' ⊢; exact ih' _ _ _ _ _) | (simp only [api_Attr.pv_eq, api_Node.pv_eq, step_Step.pv_eq, diff_change.pv_eq, diptychref11_Step.pv_eq, pvL, List.map_cons, List.map_nil, List.map_append, rune1, h49e, h2, h29, h4, h46, h48, h6] at ih' ⊢; exact ih' _ _ _ _ _)
                      · rw [if_neg h48] at hh
                        replace h48 := Bool.eq_false_iff.mpr h48
                        refine awp_false (by first | exact congrArg PV.bool h48 | rfl) ?_
                        refine awp_skip ?_; refine nmx ?_
                        refine awp_region fun K kk hK => ?_
                        simp only [go_sem, hl2a, hl2b, hl2d, hl2w]
                        refine hK _ _ fun nx => ?_; clear hK K; try clear kk
                        refine nmx ?_
                        have ih' := ih (pre ++ [y_52]) (k_47 + 1) _ (by rw [hsplit]; simp) (by simp [hidx]) hh nx
                        refine cut_id ?_
                        first | exact ih' _ _ _ _ _ | (simp only [api_Attr.pv_eq, api_Node.pv_eq, step_Step.pv_eq, diff_change.pv_eq, diptychref11_Step.pv_eq, pvL, List.map_cons, List.map_nil, List.map_append, rune1] at ih' ⊢; exact ih' _ _ _ _ _) | (simp only [api_Attr.pv_eq, api_Node.pv_eq, step_Step.pv_eq, diff_change.pv_eq, diptychref11_Step.pv_eq, pvL, List.map_cons, List.map_nil, List.map_append, rune1, h2, h29, h4, h46, h48, h6] at ih' ⊢; exact ih' _ _ _ _ _)
                  exact key r_36.Attrs [] _ _ rfl rfl f2 _ _ _ _ _ _
                · rintro s ⟨t, hless, out_57, rfl, k_55, v_56, nx, g2, g3, g6, g12, g14, rfl⟩
                  try dsimp only at hh
                  refine nmy ?_
                  first | (refine cut_less hless ?_; try refine cut_awp ?_) | refine frag_less hless ?_ | refine body_less hless ?_
                  refine awp_region fun K kk hK => ?_
                  simp only [go_sem]
                  refine hK _ _ fun nx => ?_; clear hK K; try clear kk
                  refine nmx ?_
                  have ih' := ih _ _ hh nx
                  refine cut_id ?_
                  first | exact ih' _ _ _ | (simp only [api_Attr.pv_eq, api_Node.pv_eq, step_Step.pv_eq, diff_change.pv_eq, diptychref11_Step.pv_eq, pvL, List.map_cons, List.map_nil, List.map_append, rune1] at ih' ⊢; exact ih' _ _ _) | (simp only [api_Attr.pv_eq, api_Node.pv_eq, step_Step.pv_eq, diff_change.pv_eq, diptychref11_Step.pv_eq, pvL, List.map_cons, List.map_nil, List.map_append, rune1, h2, h29, h4, h6] at ih' ⊢; exact ih' _ _ _)
                · intro i s h; exact h.elim
                · intro s h; exact h.elim
              · rw [if_neg h29] at hh
                replace h29 := Bool.eq_false_iff.mpr h29
                refine awp_false (by first | exact congrArg PV.bool h29 | rfl) ?_
                refine awp_exit ?_; refine nmx ?_
                refine fragN ?_
                refine cut_id ?_
                refine ⟨_, (Option.some.inj hh), ?_⟩
                first | exact ⟨_, _, _, _, _, _, rfl⟩ | (simp only [api_Attr.pv_eq, api_Node.pv_eq, step_Step.pv_eq, diff_change.pv_eq, diptychref11_Step.pv_eq, pvL, List.map_cons, List.map_nil, List.map_append, rune1]; exact ⟨_, _, _, _, _, _, rfl⟩) | (simp only [api_Attr.pv_eq, api_Node.pv_eq, step_Step.pv_eq, diff_change.pv_eq, diptychref11_Step.pv_eq, pvL, List.map_cons, List.map_nil, List.map_append, rune1, h2, h29, h4, h6]; exact ⟨_, _, _, _, _, _, rfl⟩)
          exact key _ _ _ f0 _ _ _ _
        · rintro s ⟨t, hless, out_60, rfl, i_58, v_59, nx, g2, g3, g6, rfl⟩
          try dsimp only at hh
          refine nmy ?_
          first | (refine cut_less hless ?_; try refine cut_awp ?_) | refine frag_less hless ?_ | refine body_less hless ?_
          refine awp_seq ?_
          refine awp_first fun K kk hK => ?_
          simp only [go_sem]
          refine hK _ _ fun nx => ?_; clear hK K; try clear kk
          by_cases h50 : ((w64 (r_8 + r_9)) == (0 : Int)) = true
          · rw [if_pos h50] at hh
            refine awp_true (by first | exact congrArg PV.bool h50 | rfl) ?_
            refine awp_first fun K kk hK => ?_
            simp only [go_sem]
            refine hK _ _ fun nx => ?_; clear hK K; try clear kk
            refine awp_ret ?_; refine nmx ?_
            obtain hR := Option.some.inj hh
            subst hR
            exact ret_p2
          · rw [if_neg h50] at hh
            replace h50 := Bool.eq_false_iff.mpr h50
            refine awp_false (by first | exact congrArg PV.bool h50 | rfl) ?_
            refine awp_skip ?_; refine nmx ?_
            obtain ⟨⟨r_61, r_62⟩, h51, hh⟩ := bind_ex hh
            dsimp only at hh
            refine awp_first fun K kk hK => ?_
            simp only [go_sem]
            refine step_call2 (diptychref4_Inner_ok _ _ _ h51) (by (try simp only [go_sem]) <;> exact wkl) (by rfl) (by rfl) ?_
            simp only [go_sem]
            refine hK _ _ fun nx => ?_; clear hK K; try clear kk
            obtain ⟨⟨r_63, r_64⟩, h52, hh⟩ := bind_ex hh
            dsimp only at hh
            refine awp_first fun K kk hK => ?_
            simp only [go_sem]
            refine step_call2 (diptychref4_Inner_ok _ _ _ h52) (by (try simp only [go_sem]) <;> exact wkl) (by rfl) (by rfl) ?_
            simp only [go_sem]
            refine hK _ _ fun nx => ?_; clear hK K; try clear kk
            obtain ⟨⟨r_65, r_66⟩, h53, hh⟩ := bind_ex hh
            dsimp only at hh
            refine awp_first fun K kk hK => ?_
            simp only [go_sem]
            refine step_call2 (diptychref4_Start_ok _ _ _ h53) (by (try simp only [go_sem]) <;> exact wkl) (by rfl) (by rfl) ?_
            simp only [go_sem]
            refine hK _ _ fun nx => ?_; clear hK K; try clear kk
            obtain ⟨s_67, h54, hh⟩ := bind_ex hh
            obtain ⟨h54a, h54c⟩ := sl_some h54
            have h54g := sl_le h54a
            have h54d := sl_map0 (f := api_Node.pv) h54c
            try simp only [Int.toNat_natCast, Int.reduceToNat, List.map_cons, List.map_nil, api_Attr.pv_eq, api_Node.pv_eq, step_Step.pv_eq, diff_change.pv_eq, diptychref11_Step.pv_eq, pvL] at h54d
            obtain ⟨total_68, h55, hh⟩ := bind_ex hh
            refine awp_first fun K kk hK => ?_
            simp only [go_sem, h54a.1, h54a.2.1, h54a.2.2, h54d, h54g]
            (repeat refine sd ?_)
            refine step_call2 (diptychref1_Total_ok _ _ h55) (by (try simp only [go_sem, h54a.1, h54a.2.1, h54a.2.2, h54d, h54g]) <;> exact wkl) (by rfl) (by rfl) ?_
            simp only [go_sem, h54a.1, h54a.2.1, h54a.2.2, h54d, h54g]
            (repeat refine sd ?_)
            refine hK _ _ fun nx => ?_; clear hK K; try clear kk
            obtain ⟨s_69, h56, hh⟩ := bind_ex hh
            obtain ⟨h56a, h56c⟩ := sl_some h56
            have h56g := sl_le h56a
            have h56d := sl_map (f := api_Node.pv) h56c
            try simp only [Int.toNat_natCast, Int.reduceToNat, List.map_cons, List.map_nil, api_Attr.pv_eq, api_Node.pv_eq, step_Step.pv_eq, diff_change.pv_eq, diptychref11_Step.pv_eq, pvL] at h56d
            obtain ⟨total_70, h57, hh⟩ := bind_ex hh
            obtain ⟨s_71, h58, hh⟩ := bind_ex hh
            obtain ⟨h58a, h58c⟩ := sl_some h58
            have h58g := sl_le h58a
            have h58d := sl_map (f := api_Node.pv) h58c
            try simp only [Int.toNat_natCast, Int.reduceToNat, List.map_cons, List.map_nil, api_Attr.pv_eq, api_Node.pv_eq, step_Step.pv_eq, diff_change.pv_eq, diptychref11_Step.pv_eq, pvL] at h58d
            obtain ⟨l_72, h59, hh⟩ := bind_ex hh
            obtain ⟨h59a, h59c⟩ := app_some h59
            have h59d := app_map (f := diptychref11_Step.pv) h59c
            have h59e := app_len h59c
            try simp only [List.length_cons, List.length_nil, Nat.zero_add, Nat.reduceAdd] at h59a h59e
            try simp only [h59e] at h59a
            try simp only [List.map_cons, List.map_nil, List.nil_append, List.append_nil, List.cons_append, List.singleton_append, rune1, api_Attr.pv_eq, api_Node.pv_eq, step_Step.pv_eq, diff_change.pv_eq, diptychref11_Step.pv_eq, pvL] at h59d
            refine awp_first fun K kk hK => ?_
            simp only [go_sem, h56a.1, h56a.2.1, h56a.2.2, h56d, h56g, h58a.1, h58a.2.1, h58a.2.2, h58d, h58g, h59a, h59d, h59e]
            (repeat refine sd ?_)
            refine step_call2 (diptychref1_Total_ok _ _ h57) (by (try simp only [go_sem, h56a.1, h56a.2.1, h56a.2.2, h56d, h56g, h58a.1, h58a.2.1, h58a.2.2, h58d, h58g, h59a, h59d, h59e]) <;> exact wkl) (by rfl) (by rfl) ?_
            simp only [go_sem, h56a.1, h56a.2.1, h56a.2.2, h56d, h56g, h58a.1, h58a.2.1, h58a.2.2, h58d, h58g, h59a, h59d, h59e]
            (repeat refine sd ?_)
            refine hK _ _ fun nx => ?_; clear hK K; try clear kk
            refine awp_ret ?_; refine nmx ?_
            obtain hR := Option.some.inj hh
            subst hR
            exact ret_p2
        · intro i s h; exact h.elim
        · intro s h; exact h.elim
theorem diptychlaw18_sameStep_ok (a_1 : step_Step) (b_2 : diptychref11_Step) (R : Bool) (hh : diptychlaw18_sameStep a_1 b_2 = some R) : PC Tryd.prog 65 [.agg [.int .u8 a_1.Kind, .int .i64 a_1.From, .int .i64 a_1.To, .list 5 (a_1.Nodes.map api_Node.pv), .str a_1.Name, .str a_1.Value], .agg [.int .u8 b_2.Kind, .int .i64 b_2.From, .int .i64 b_2.To, .list 5 (b_2.Nodes.map api_Node.pv), .str b_2.Name, .str b_2.Value]] (.bool R) := by
  rw [diptychlaw18_sameStep] at hh
  refine start_diptychlaw18_sameStep rfl ?_
  refine awp_first fun K kk hK => ?_
  simp only [go_sem]
  refine hK _ _ fun nx => ?_; clear hK K; try clear kk
  by_cases h1 : (a_1.Kind == b_2.Kind) = true
  · rw [if_pos h1] at hh
    by_cases h2 : (a_1.From == b_2.From) = true
    · rw [if_pos h2] at hh
      by_cases h3 : (a_1.To == b_2.To) = true
      · rw [if_pos h3] at hh
        obtain ⟨sameal_3, h4, hh⟩ := bind_ex hh
        by_cases h5 : (sameal_3) = true
        · rw [if_pos h5] at hh
          by_cases h6 : (a_1.Name == b_2.Name) = true
          · rw [if_pos h6] at hh
            refine awp_first fun K kk hK => ?_
            simp only [go_sem, h1, h1, h2, h2, h3, h3, h5, h5, h6, h6]
            (repeat refine sd ?_)
            refine step_call2 (diptychref1_SameAll_ok _ _ _ h4) (by (try simp only [go_sem, h1, h1, h2, h2, h3, h3, h5, h5, h6, h6]) <;> exact wkl) (by rfl) (by rfl) ?_
            simp only [go_sem, h1, h1, h2, h2, h3, h3, h5, h5, h6, h6]
            (repeat refine sd ?_)
            refine hK _ _ fun nx => ?_; clear hK K; try clear kk
            refine awp_ret ?_; refine nmx ?_
            obtain hR := Option.some.inj hh
            subst hR
            exact ret_p2
          · rw [if_neg h6] at hh
            replace h6 := Bool.eq_false_iff.mpr h6
            refine awp_first fun K kk hK => ?_
            simp only [go_sem, h1, h1, h2, h2, h3, h3, h5, h5, h6, h6]
            (repeat refine sd ?_)
            refine step_call2 (diptychref1_SameAll_ok _ _ _ h4) (by (try simp only [go_sem, h1, h1, h2, h2, h3, h3, h5, h5, h6, h6]) <;> exact wkl) (by rfl) (by rfl) ?_
            simp only [go_sem, h1, h1, h2, h2, h3, h3, h5, h5, h6, h6]
            (repeat refine sd ?_)
            refine hK _ _ fun nx => ?_; clear hK K; try clear kk
            refine awp_ret ?_; refine nmx ?_
            obtain hR := Option.some.inj hh
            subst hR
            exact ret_p2
        · rw [if_neg h5] at hh
          replace h5 := Bool.eq_false_iff.mpr h5
          refine awp_first fun K kk hK => ?_
          simp only [go_sem, h1, h1, h2, h2, h3, h3, h5, h5]
          (repeat refine sd ?_)
          refine step_call2 (diptychref1_SameAll_ok _ _ _ h4) (by (try simp only [go_sem, h1, h1, h2, h2, h3, h3, h5, h5]) <;> exact wkl) (by rfl) (by rfl) ?_
          simp only [go_sem, h1, h1, h2, h2, h3, h3, h5, h5]
          (repeat refine sd ?_)
          refine hK _ _ fun nx => ?_; clear hK K; try clear kk
          refine awp_ret ?_; refine nmx ?_
          obtain hR := Option.some.inj hh
          subst hR
          exact ret_p2
      · rw [if_neg h3] at hh
        replace h3 := Bool.eq_false_iff.mpr h3
        refine awp_first fun K kk hK => ?_
        simp only [go_sem, h1, h1, h2, h2, h3, h3]
        (repeat refine sd ?_)
        refine hK _ _ fun nx => ?_; clear hK K; try clear kk
        refine awp_ret ?_; refine nmx ?_
        obtain hR := Option.some.inj hh
        subst hR
        exact ret_p2
    · rw [if_neg h2] at hh
      replace h2 := Bool.eq_false_iff.mpr h2
      refine awp_first fun K kk hK => ?_
      simp only [go_sem, h1, h1, h2, h2]
      (repeat refine sd ?_)
      refine hK _ _ fun nx => ?_; clear hK K; try clear kk
      refine awp_ret ?_; refine nmx ?_
      obtain hR := Option.some.inj hh
      subst hR
      exact ret_p2
  · rw [if_neg h1] at hh
    replace h1 := Bool.eq_false_iff.mpr h1
    refine awp_first fun K kk hK => ?_
    simp only [go_sem, h1, h1]
    (repeat refine sd ?_)
    refine hK _ _ fun nx => ?_; clear hK K; try clear kk
    refine awp_ret ?_; refine nmx ?_
    obtain hR := Option.some.inj hh
    subst hR
    exact ret_p2
theorem diptychlaw18_sameSteps_ok (a_1 : (List step_Step)) (b_2 : (List diptychref11_Step)) (R : Bool) (hh : diptychlaw18_sameSteps a_1 b_2 = some R) : PC Tryd.prog 22 [.list 6 (a_1.map step_Step.pv), .list 6 (b_2.map diptychref11_Step.pv)] (.bool R) := by
  rw [diptychlaw18_sameSteps] at hh
  refine start_diptychlaw18_sameSteps rfl ?_
  refine awp_first fun K kk hK => ?_
  simp only [go_sem]
  refine hK _ _ fun nx => ?_; clear hK K; try clear kk
  refine awp_seq ?_
  refine awp_first fun K kk hK => ?_
  simp only [go_sem]
  refine hK _ _ fun nx => ?_; clear hK K; try clear kk
  by_cases h1 : ((a_1.length : Int) != (b_2.length : Int)) = true
  · rw [if_pos h1] at hh
    refine awp_true (by first | exact congrArg PV.bool h1 | rfl) ?_
    refine awp_first fun K kk hK => ?_
    simp only [go_sem]
    refine hK _ _ fun nx => ?_; clear hK K; try clear kk
    refine awp_ret ?_; refine nmx ?_
    obtain hR := Option.some.inj hh
    subst hR
    exact ret_p2
  · rw [if_neg h1] at hh
    replace h1 := Bool.eq_false_iff.mpr h1
    refine awp_false (by first | exact congrArg PV.bool h1 | rfl) ?_
    refine awp_skip ?_; refine nmx ?_
    refine awp_seq ?_
    refine awp_first fun K kk hK => ?_
    simp only [go_sem]
    refine hK _ _ fun nx => ?_; clear hK K; try clear kk
    obtain ⟨e0, f0, hh⟩ := bind_ex hh
    obtain ⟨hlen0, f0⟩ := chk_some f0
    refine awp_fragE (CutTo (fun s => .inr () = e0 ∧ ∃ (i_14 : Int) (v_15 : Bool) (nx : Nat), s = ⟨[(0, .list 6 (a_1.map step_Step.pv)), (1, .list 6 (b_2.map diptychref11_Step.pv)), (5, .int .i64 i_14), (14, .bool v_15)], [], nx⟩))
      (fun i s => False)
      (fun s => ∃ res_13, .inl res_13 = e0 ∧ bodyR Tryd.prog [.tmp 4] (.bool res_13) [] .ret s) ?_ ?_ ?_ ?_
    · refine awp_block ?_
      refine awp_loopJ fun I hI => ?_
      have key : ∀ (suf pre : List step_Step) (i_6 : Int), a_1 = pre ++ suf → i_6 = (pre.length : Int) → diptychlaw18_sameSteps_l0 b_2 suf i_6 = some e0 → ∀ (nx : Nat), I ⟨[(0, .list 6 (a_1.map step_Step.pv)), (1, .list 6 (b_2.map diptychref11_Step.pv)), (5, .int .i64 i_6)], [], nx⟩ := by
        intro suf
        induction suf with
        | nil =>
          intro pre i_6 hsplit hidx hh nx
          rw [diptychlaw18_sameSteps_l0] at hh
          refine hI _ ?_
          have h12 := walk_nil hsplit hidx
          refine awp_seq ?_
          refine awp_first fun K kk hK => ?_
          simp only [go_sem]
          refine hK _ _ fun nx => ?_; clear hK K; try clear kk
          refine awp_false (by first | exact congrArg PV.bool h12 | rfl) ?_
          refine awp_exit ?_; refine nmx ?_
          refine fragN ?_
          refine cut_id ?_
          refine ⟨(Option.some.inj hh), ?_⟩
          first | exact ⟨_, _, _, rfl⟩ | (simp only [api_Attr.pv_eq, api_Node.pv_eq, step_Step.pv_eq, diff_change.pv_eq, diptychref11_Step.pv_eq, pvL, List.map_cons, List.map_nil, List.map_append, rune1]; exact ⟨_, _, _, rfl⟩) | (simp only [api_Attr.pv_eq, api_Node.pv_eq, step_Step.pv_eq, diff_change.pv_eq, diptychref11_Step.pv_eq, pvL, List.map_cons, List.map_nil, List.map_append, rune1, h1, h12]; exact ⟨_, _, _, rfl⟩)
        | cons y_10 suf ih =>
          intro pre i_6 hsplit hidx hh nx
          rw [diptychlaw18_sameSteps_l0] at hh
          refine hI _ ?_
          obtain ⟨hl0a, hl0b, hl0d, hl0w, h12⟩ := walk_cons (f := step_Step.pv) hsplit hidx hlen0
          refine awp_seq ?_
          refine awp_first fun K kk hK => ?_
          simp only [go_sem]
          refine hK _ _ fun nx => ?_; clear hK K; try clear kk
          refine awp_true (by first | exact congrArg PV.bool h12 | rfl) ?_
          refine awp_skip ?_; refine nmx ?_
          refine awp_seq ?_
          refine awp_block ?_
          obtain ⟨x_11, h13, hh⟩ := bind_ex hh
          obtain ⟨h13a, h13b, h13c⟩ := rd_some h13
          have h13d := rd_get (f := diptychref11_Step.pv) h13c
          have h13f := rd_more (f := diptychref11_Step.pv) h13c
          try simp only [Int.toNat_natCast, Int.reduceToNat] at h13d h13f
          obtain ⟨samest_12, h14, hh⟩ := bind_ex hh
          refine awp_first fun K kk hK => ?_
          simp only [go_sem, h13a, h13b, h13d, h13f.1, h13f.2, hl0a, hl0b, hl0d, hl0w]
          (repeat refine sd ?_)
          refine step_call2 (diptychlaw18_sameStep_ok _ _ _ h14) (by (try simp only [go_sem, h13a, h13b, h13d, h13f.1, h13f.2, hl0a, hl0b, hl0d, hl0w]) <;> exact wkl) (by rfl) (by rfl) ?_
          simp only [go_sem, h13a, h13b, h13d, h13f.1, h13f.2, hl0a, hl0b, hl0d, hl0w]
          (repeat refine sd ?_)
          refine hK _ _ fun nx => ?_; clear hK K; try clear kk
          by_cases h15 : (!samest_12) = true
          · rw [if_pos h15] at hh
            refine awp_true (by first | exact congrArg PV.bool h15 | rfl) ?_
            refine awp_first fun K kk hK => ?_
            simp only [go_sem, hl0a, hl0b, hl0d, hl0w]
            refine hK _ _ fun nx => ?_; clear hK K; try clear kk
            refine awp_ret ?_; refine nmx ?_
            refine fragR ⟨_, (Option.some.inj hh), ?_⟩
            exact ret_p2
          · rw [if_neg h15] at hh
            replace h15 := Bool.eq_false_iff.mpr h15
            refine awp_false (by first | exact congrArg PV.bool h15 | rfl) ?_
            refine awp_skip ?_; refine nmx ?_
            refine awp_region fun K kk hK => ?_
            simp only [go_sem, hl0a, hl0b, hl0d, hl0w]
            refine hK _ _ fun nx => ?_; clear hK K; try clear kk
            refine nmx ?_
            have ih' := ih (pre ++ [y_10]) (i_6 + 1) (by rw [hsplit]; simp) (by simp [hidx]) hh nx
            refine cut_id ?_
            first | exact ih' | (simp only [api_Attr.pv_eq, api_Node.pv_eq, step_Step.pv_eq, diff_change.pv_eq, diptychref11_Step.pv_eq, pvL, List.map_cons, List.map_nil, List.map_append, rune1] at ih' ⊢; exact ih') | (simp only [api_Attr.pv_eq, api_Node.pv_eq, step_Step.pv_eq, diff_change.pv_eq, diptychref11_Step.pv_eq, pvL, List.map_cons, List.map_nil, List.map_append, rune1, h1, h12, h15] at ih' ⊢; exact ih')
      exact key a_1 [] _ rfl rfl f0 _
    · rintro s ⟨t, hless, rfl, i_14, v_15, nx, rfl⟩
      try dsimp only at hh
      refine nmy ?_
      first | (refine cut_less hless ?_; try refine cut_awp ?_) | refine frag_less hless ?_ | refine body_less hless ?_
      refine awp_first fun K kk hK => ?_
      simp only [go_sem]
      refine hK _ _ fun nx => ?_; clear hK K; try clear kk
      refine awp_ret ?_; refine nmx ?_
      obtain hR := Option.some.inj hh
      subst hR
      exact ret_p2
    · intro i s h; exact h.elim
    · rintro s ⟨res_13, rfl, hb⟩
      try dsimp only at hh
      obtain hR := Option.some.inj hh
      subst hR
      refine nmx ?_
      exact hb
theorem diff_Where_ok (a_1 : api_Node) (b_2 : api_Node) (R : ((List Int) × Int × Int × Int)) (hh : diff_Where a_1 b_2 = some R) : PC Tryd.prog 23 [.agg [.str a_1.Kind, .str a_1.Text, .list 1 (a_1.Marks.map PV.str), .list 2 (a_1.Attrs.map api_Attr.pv), .list 5 (a_1.Kids.map api_Node.pv)], .agg [.str b_2.Kind, .str b_2.Text, .list 1 (b_2.Marks.map PV.str), .list 2 (b_2.Attrs.map api_Attr.pv), .list 5 (b_2.Kids.map api_Node.pv)]] (.tup [.list 1 (R.1.map (PV.int .i64)), .int .i64 R.2.1, .int .i64 R.2.2.1, .int .i64 R.2.2.2]) := by
  rw [diff_Where] at hh
  refine start_diff_Where rfl ?_
  refine awp_first fun K kk hK => ?_
  simp only [go_sem]
  refine hK _ _ fun nx => ?_; clear hK K; try clear kk
  obtain ⟨of_3, h1, hh⟩ := bind_ex hh
  refine awp_first fun K kk hK => ?_
  simp only [go_sem]
  refine step_call2 (diff_of_ok _ _ _ h1) (by (try simp only [go_sem]) <;> exact wkl) (by rfl) (by rfl) ?_
  simp only [go_sem]
  refine hK _ _ fun nx => ?_; clear hK K; try clear kk
  refine awp_first fun K kk hK => ?_
  simp only [go_sem]
  refine hK _ _ fun nx => ?_; clear hK K; try clear kk
  refine awp_ret ?_; refine nmx ?_
  obtain hR := Option.some.inj hh
  subst hR
  exact ret_p2

end Go.Proofs.YtblielhogcnnkaaDoor
