/- What the functions answer, the program answers (3). -/
import Derived.Test.YtblielhogcnnkaaDoorAgC
import Derived.Test.YtblielhogcnnkaaDoorAgF
import Derived.Test.YtblielhogcnnkaaDoorAgK0
import Derived.Test.YtblielhogcnnkaaDoorAgK1
import Derived.Test.YtblielhogcnnkaaDoorAgK2
namespace Go.Proofs.YtblielhogcnnkaaDoor
set_option linter.unusedSimpArgs false
set_option linter.unusedVariables false
open Go
set_option maxRecDepth 100000

theorem diff_Steps_ok (a_1 : api_Node) (b_2 : api_Node) (R : ((List step_Step) × Int)) (hh : diff_Steps a_1 b_2 = some R) : PC Tryd.prog 20 [.agg [.str a_1.Kind, .str a_1.Text, .list 1 (a_1.Marks.map PV.str), .list 2 (a_1.Attrs.map api_Attr.pv), .list 5 (a_1.Kids.map api_Node.pv)], .agg [.str b_2.Kind, .str b_2.Text, .list 1 (b_2.Marks.map PV.str), .list 2 (b_2.Attrs.map api_Attr.pv), .list 5 (b_2.Kids.map api_Node.pv)]] (.tup [.list 6 (R.1.map step_Step.pv), .int .i64 R.2]) := by
  rw [diff_Steps] at hh
  refine start_diff_Steps rfl ?_
  refine awp_first fun K kk hK => ?_
  simp only [go_sem]
  refine hK _ _ fun nx => ?_; clear hK K; try clear kk
  refine awp_seq ?_
  obtain ⟨right_3, h1, hh⟩ := bind_ex hh
  by_cases h2 : (!right_3) = true
  · rw [if_pos h2] at hh
    refine awp_first fun K kk hK => ?_
    simp only [go_sem, h2, h2]
    (repeat refine sd ?_)
    refine step_call2 (node_Right_ok _ _ h1) (by (try simp only [go_sem, h2, h2]) <;> exact wkl) (by rfl) (by rfl) ?_
    simp only [go_sem, h2, h2]
    (repeat refine sd ?_)
    refine hK _ _ fun nx => ?_; clear hK K; try clear kk
    refine awp_true rfl ?_
    refine awp_first fun K kk hK => ?_
    simp only [go_sem]
    refine hK _ _ fun nx => ?_; clear hK K; try clear kk
    refine awp_ret ?_; refine nmx ?_
    obtain hR := Option.some.inj hh
    subst hR
    exact ret_p2
  · rw [if_neg h2] at hh
    replace h2 := Bool.eq_false_iff.mpr h2
    obtain ⟨right_4, h3, hh⟩ := bind_ex hh
    by_cases h4 : (!right_4) = true
    · rw [if_pos h4] at hh
      refine awp_first fun K kk hK => ?_
      simp only [go_sem, h2, h2, h4, h4]
      (repeat refine sd ?_)
      refine step_call2 (node_Right_ok _ _ h1) (by (try simp only [go_sem, h2, h2, h4, h4]) <;> exact wkl) (by rfl) (by rfl) ?_
      simp only [go_sem, h2, h2, h4, h4]
      (repeat refine sd ?_)
      refine step_call2 (node_Right_ok _ _ h3) (by (try simp only [go_sem, h2, h2, h4, h4]) <;> exact wkl) (by rfl) (by rfl) ?_
      simp only [go_sem, h2, h2, h4, h4]
      (repeat refine sd ?_)
      refine hK _ _ fun nx => ?_; clear hK K; try clear kk
      refine awp_true rfl ?_
      refine awp_first fun K kk hK => ?_
      simp only [go_sem]
      refine hK _ _ fun nx => ?_; clear hK K; try clear kk
      refine awp_ret ?_; refine nmx ?_
      obtain hR := Option.some.inj hh
      subst hR
      exact ret_p2
    · rw [if_neg h4] at hh
      replace h4 := Bool.eq_false_iff.mpr h4
      obtain ⟨alike_5, h5, hh⟩ := bind_ex hh
      refine awp_first fun K kk hK => ?_
      simp only [go_sem, h2, h2, h4, h4]
      (repeat refine sd ?_)
      refine step_call2 (node_Right_ok _ _ h1) (by (try simp only [go_sem, h2, h2, h4, h4]) <;> exact wkl) (by rfl) (by rfl) ?_
      simp only [go_sem, h2, h2, h4, h4]
      (repeat refine sd ?_)
      refine step_call2 (node_Right_ok _ _ h3) (by (try simp only [go_sem, h2, h2, h4, h4]) <;> exact wkl) (by rfl) (by rfl) ?_
      simp only [go_sem, h2, h2, h4, h4]
      (repeat refine sd ?_)
      refine step_call2 (diff_alike_ok _ _ _ h5) (by (try simp only [go_sem, h2, h2, h4, h4]) <;> exact wkl) (by rfl) (by rfl) ?_
      simp only [go_sem, h2, h2, h4, h4]
      (repeat refine sd ?_)
      refine hK _ _ fun nx => ?_; clear hK K; try clear kk
      by_cases h6 : (!alike_5) = true
      · rw [if_pos h6] at hh
        refine awp_true (by first | exact congrArg PV.bool h6 | rfl) ?_
        refine awp_first fun K kk hK => ?_
        simp only [go_sem]
        refine hK _ _ fun nx => ?_; clear hK K; try clear kk
        refine awp_ret ?_; refine nmx ?_
        obtain hR := Option.some.inj hh
        subst hR
        exact ret_p2
      · rw [if_neg h6] at hh
        replace h6 := Bool.eq_false_iff.mpr h6
        refine awp_false (by first | exact congrArg PV.bool h6 | rfl) ?_
        refine awp_skip ?_; refine nmx ?_
        obtain ⟨of_6, h7, hh⟩ := bind_ex hh
        refine awp_first fun K kk hK => ?_
        simp only [go_sem]
        refine step_call2 (diff_of_ok _ _ _ h7) (by (try simp only [go_sem]) <;> exact wkl) (by rfl) (by rfl) ?_
        simp only [go_sem]
        refine hK _ _ fun nx => ?_; clear hK K; try clear kk
        refine awp_seq ?_
        refine awp_first fun K kk hK => ?_
        simp only [go_sem]
        refine hK _ _ fun nx => ?_; clear hK K; try clear kk
        by_cases h8 : ((w64 (of_6.m + of_6.n)) == (0 : Int)) = true
        · rw [if_pos h8] at hh
          refine awp_true (by first | exact congrArg PV.bool h8 | rfl) ?_
          refine awp_first fun K kk hK => ?_
          simp only [go_sem]
          refine hK _ _ fun nx => ?_; clear hK K; try clear kk
          refine awp_ret ?_; refine nmx ?_
          obtain hR := Option.some.inj hh
          subst hR
          exact ret_p2
        · rw [if_neg h8] at hh
          replace h8 := Bool.eq_false_iff.mpr h8
          refine awp_false (by first | exact congrArg PV.bool h8 | rfl) ?_
          refine awp_skip ?_; refine nmx ?_
          obtain ⟨s_7, h9, hh⟩ := bind_ex hh
          obtain ⟨h9a, h9c⟩ := sl_some h9
          have h9g := sl_le h9a
          have h9d := sl_map0 (f := api_Node.pv) h9c
          try simp only [Int.toNat_natCast, Int.reduceToNat, List.map_cons, List.map_nil, api_Attr.pv_eq, api_Node.pv_eq, step_Step.pv_eq, diff_change.pv_eq, diptychref11_Step.pv_eq, pvL] at h9d
          obtain ⟨total_8, h10, hh⟩ := bind_ex hh
          refine awp_first fun K kk hK => ?_
          simp only [go_sem, h9a.1, h9a.2.1, h9a.2.2, h9d, h9g]
          (repeat refine sd ?_)
          refine step_call2 (node_Total_ok _ _ h10) (by (try simp only [go_sem, h9a.1, h9a.2.1, h9a.2.2, h9d, h9g]) <;> exact wkl) (by rfl) (by rfl) ?_
          simp only [go_sem, h9a.1, h9a.2.1, h9a.2.2, h9d, h9g]
          (repeat refine sd ?_)
          refine hK _ _ fun nx => ?_; clear hK K; try clear kk
          obtain ⟨s_9, h11, hh⟩ := bind_ex hh
          obtain ⟨h11a, h11c⟩ := sl_some h11
          have h11g := sl_le h11a
          have h11d := sl_map (f := api_Node.pv) h11c
          try simp only [Int.toNat_natCast, Int.reduceToNat, List.map_cons, List.map_nil, api_Attr.pv_eq, api_Node.pv_eq, step_Step.pv_eq, diff_change.pv_eq, diptychref11_Step.pv_eq, pvL] at h11d
          obtain ⟨total_10, h12, hh⟩ := bind_ex hh
          refine awp_first fun K kk hK => ?_
          simp only [go_sem, h11a.1, h11a.2.1, h11a.2.2, h11d, h11g]
          (repeat refine sd ?_)
          refine step_call2 (node_Total_ok _ _ h12) (by (try simp only [go_sem, h11a.1, h11a.2.1, h11a.2.2, h11d, h11g]) <;> exact wkl) (by rfl) (by rfl) ?_
          simp only [go_sem, h11a.1, h11a.2.1, h11a.2.2, h11d, h11g]
          (repeat refine sd ?_)
          refine hK _ _ fun nx => ?_; clear hK K; try clear kk
          obtain ⟨s_11, h13, hh⟩ := bind_ex hh
          obtain ⟨h13a, h13c⟩ := sl_some h13
          have h13g := sl_le h13a
          have h13d := sl_map (f := api_Node.pv) h13c
          try simp only [Int.toNat_natCast, Int.reduceToNat, List.map_cons, List.map_nil, api_Attr.pv_eq, api_Node.pv_eq, step_Step.pv_eq, diff_change.pv_eq, diptychref11_Step.pv_eq, pvL] at h13d
          obtain ⟨copy_12, h14, hh⟩ := bind_ex hh
          refine awp_first fun K kk hK => ?_
          simp only [go_sem, h13a.1, h13a.2.1, h13a.2.2, h13d, h13g]
          (repeat refine sd ?_)
          refine step_call2 (node_Copy_ok _ _ h14) (by (try simp only [go_sem, h13a.1, h13a.2.1, h13a.2.2, h13d, h13g]) <;> exact wkl) (by rfl) (by rfl) ?_
          simp only [go_sem, h13a.1, h13a.2.1, h13a.2.2, h13d, h13g]
          (repeat refine sd ?_)
          refine hK _ _ fun nx => ?_; clear hK K; try clear kk
          obtain ⟨l_13, h15, hh⟩ := bind_ex hh
          obtain ⟨h15a, h15c⟩ := app_some h15
          have h15d := app_map (f := step_Step.pv) h15c
          have h15e := app_len h15c
          try simp only [List.length_cons, List.length_nil, Nat.zero_add, Nat.reduceAdd] at h15a h15e
          try simp only [h15e] at h15a
          try simp only [List.map_cons, List.map_nil, List.nil_append, List.append_nil, List.cons_append, List.singleton_append, rune1, api_Attr.pv_eq, api_Node.pv_eq, step_Step.pv_eq, diff_change.pv_eq, diptychref11_Step.pv_eq, pvL] at h15d
          refine awp_first fun K kk hK => ?_
          simp only [go_sem, h15a, h15d, h15e]
          (repeat refine sd ?_)
          refine hK _ _ fun nx => ?_; clear hK K; try clear kk
          refine awp_ret ?_; refine nmx ?_
          obtain hR := Option.some.inj hh
          subst hR
          exact ret_p2
theorem diptychlaw18_shown_ok (R : Bool) (hh : diptychlaw18_shown = some R) : PC Tryd.prog 18 [] (.bool R) := by
  rw [diptychlaw18_shown] at hh
  refine start_diptychlaw18_shown rfl ?_
  refine awp_first fun K kk hK => ?_
  simp only [go_sem]
  refine hK _ _ fun nx => ?_; clear hK K; try clear kk
  refine awp_first fun K kk hK => ?_
  simp only [go_sem]
  refine hK _ _ fun nx => ?_; clear hK K; try clear kk
  refine awp_first fun K kk hK => ?_
  simp only [go_sem]
  refine hK _ _ fun nx => ?_; clear hK K; try clear kk
  obtain ⟨⟨r_1, r_2⟩, h1, hh⟩ := bind_ex hh
  dsimp only at hh
  refine awp_first fun K kk hK => ?_
  simp only [go_sem]
  refine step_call2 (diff_Steps_ok _ _ _ h1) (by (try simp only [go_sem]) <;> exact wkl) (by rfl) (by rfl) ?_
  simp only [go_sem]
  refine hK _ _ fun nx => ?_; clear hK K; try clear kk
  by_cases h2 : (r_2 == (0 : Int)) = true
  · rw [if_pos h2] at hh
    by_cases h3 : ((r_1.length : Int) == (1 : Int)) = true
    · rw [if_pos h3] at hh
      obtain ⟨x_3, h4, hh⟩ := bind_ex hh
      obtain ⟨h4a, h4b, h4c⟩ := rd_some h4
      have h4d := rd_get (f := step_Step.pv) h4c
      have h4f := rd_more (f := step_Step.pv) h4c
      try simp only [Int.toNat_natCast, Int.reduceToNat] at h4d h4f
      by_cases h5 : (x_3.Kind == (114 : Int)) = true
      · rw [if_pos h5] at hh
        by_cases h6 : (x_3.From == (1 : Int)) = true
        · rw [if_pos h6] at hh
          by_cases h7 : (x_3.To == (3 : Int)) = true
          · rw [if_pos h7] at hh
            by_cases h8 : ((x_3.Nodes.length : Int) == (1 : Int)) = true
            · rw [if_pos h8] at hh
              obtain ⟨x_4, h9, hh⟩ := bind_ex hh
              obtain ⟨h9a, h9b, h9c⟩ := rd_some h9
              have h9d := rd_get (f := api_Node.pv) h9c
              have h9f := rd_more (f := api_Node.pv) h9c
              try simp only [Int.toNat_natCast, Int.reduceToNat] at h9d h9f
              refine awp_first fun K kk hK => ?_
              simp only [go_sem, h2, h2, h3, h4a, h4b, h4d, h4f.1, h4f.2, h3, h5, h4a, h4b, h4d, h4f.1, h4f.2, h5, h6, h4a, h4b, h4d, h4f.1, h4f.2, h6, h7, h4a, h4b, h4d, h4f.1, h4f.2, h7, h8, h4a, h4b, h4d, h4f.1, h4f.2, h9a, h9b, h9d, h9f.1, h9f.2, h8]
              (repeat refine sd ?_)
              refine hK _ _ fun nx => ?_; clear hK K; try clear kk
              refine awp_ret ?_; refine nmx ?_
              obtain hR := Option.some.inj hh
              subst hR
              exact ret_p2
            · rw [if_neg h8] at hh
              replace h8 := Bool.eq_false_iff.mpr h8
              refine awp_first fun K kk hK => ?_
              simp only [go_sem, h2, h2, h3, h4a, h4b, h4d, h4f.1, h4f.2, h3, h5, h4a, h4b, h4d, h4f.1, h4f.2, h5, h6, h4a, h4b, h4d, h4f.1, h4f.2, h6, h7, h4a, h4b, h4d, h4f.1, h4f.2, h7, h8, h8]
              (repeat refine sd ?_)
              refine hK _ _ fun nx => ?_; clear hK K; try clear kk
              refine awp_ret ?_; refine nmx ?_
              obtain hR := Option.some.inj hh
              subst hR
              exact ret_p2
          · rw [if_neg h7] at hh
            replace h7 := Bool.eq_false_iff.mpr h7
            refine awp_first fun K kk hK => ?_
            simp only [go_sem, h2, h2, h3, h4a, h4b, h4d, h4f.1, h4f.2, h3, h5, h4a, h4b, h4d, h4f.1, h4f.2, h5, h6, h4a, h4b, h4d, h4f.1, h4f.2, h6, h7, h7]
            (repeat refine sd ?_)
            refine hK _ _ fun nx => ?_; clear hK K; try clear kk
            refine awp_ret ?_; refine nmx ?_
            obtain hR := Option.some.inj hh
            subst hR
            exact ret_p2
        · rw [if_neg h6] at hh
          replace h6 := Bool.eq_false_iff.mpr h6
          refine awp_first fun K kk hK => ?_
          simp only [go_sem, h2, h2, h3, h4a, h4b, h4d, h4f.1, h4f.2, h3, h5, h4a, h4b, h4d, h4f.1, h4f.2, h5, h6, h6]
          (repeat refine sd ?_)
          refine hK _ _ fun nx => ?_; clear hK K; try clear kk
          refine awp_ret ?_; refine nmx ?_
          obtain hR := Option.some.inj hh
          subst hR
          exact ret_p2
      · rw [if_neg h5] at hh
        replace h5 := Bool.eq_false_iff.mpr h5
        refine awp_first fun K kk hK => ?_
        simp only [go_sem, h2, h2, h3, h4a, h4b, h4d, h4f.1, h4f.2, h3, h5, h5]
        (repeat refine sd ?_)
        refine hK _ _ fun nx => ?_; clear hK K; try clear kk
        refine awp_ret ?_; refine nmx ?_
        obtain hR := Option.some.inj hh
        subst hR
        exact ret_p2
    · rw [if_neg h3] at hh
      replace h3 := Bool.eq_false_iff.mpr h3
      refine awp_first fun K kk hK => ?_
      simp only [go_sem, h2, h2, h3, h3]
      (repeat refine sd ?_)
      refine hK _ _ fun nx => ?_; clear hK K; try clear kk
      refine awp_ret ?_; refine nmx ?_
      obtain hR := Option.some.inj hh
      subst hR
      exact ret_p2
  · rw [if_neg h2] at hh
    replace h2 := Bool.eq_false_iff.mpr h2
    refine awp_first fun K kk hK => ?_
    simp only [go_sem, h2, h2]
    (repeat refine sd ?_)
    refine hK _ _ fun nx => ?_; clear hK K; try clear kk
    refine awp_ret ?_; refine nmx ?_
    obtain hR := Option.some.inj hh
    subst hR
    exact ret_p2
theorem diptychlaw18_light_grp : ∀ kr : Nat, (∀ (n_1 : api_Node) (left_2 : Int) (R : Int), diptychlaw18_light_k kr n_1 left_2 = some R → PC Tryd.prog 19 [.agg [.str n_1.Kind, .str n_1.Text, .list 1 (n_1.Marks.map PV.str), .list 2 (n_1.Attrs.map api_Attr.pv), .list 5 (n_1.Kids.map api_Node.pv)], .int .i64 left_2] (.int .i64 R)) := by
  intro kr
  induction kr with
  | zero => exact (by intro n_1 left_2 R hh; rw [diptychlaw18_light_k] at hh; cases hh)
  | succ kr ih =>
    have ih_diptychlaw18_light := ih
    clear ih
    intro n_1 left_2 R hh
    rw [diptychlaw18_light_k] at hh
    refine start_diptychlaw18_light rfl ?_
    refine awp_first fun K kk hK => ?_
    simp only [go_sem]
    refine hK _ _ fun nx => ?_; clear hK K; try clear kk
    refine awp_first fun K kk hK => ?_
    simp only [go_sem]
    refine hK _ _ fun nx => ?_; clear hK K; try clear kk
    refine awp_seq ?_
    refine awp_first fun K kk hK => ?_
    simp only [go_sem]
    refine hK _ _ fun nx => ?_; clear hK K; try clear kk
    obtain ⟨e0, f0, hh⟩ := bind_ex hh
    obtain ⟨hlen0, f0⟩ := chk_some f0
    refine awp_fragE (CutTo (fun s => ∃ left_8, left_8 = e0 ∧ ∃ (i_9 : Int) (v_10 : Bool) (nx : Nat) (g2 : Nat), s = ⟨[(1, .int .i64 left_8), (2, .box 2 g2 0), (5, .int .i64 i_9), (26, .bool v_10)], [(2, g2, .var 28 [.str n_1.Kind, .str n_1.Text, .list 1 (n_1.Marks.map PV.str), .list 2 (n_1.Attrs.map api_Attr.pv), .list 5 (n_1.Kids.map api_Node.pv)])], nx⟩))
      (fun i s => False)
      (fun s => False) ?_ ?_ ?_ ?_
    · refine awp_block ?_
      refine awp_loopJ fun I hI => ?_
      have key : ∀ (suf pre : List Str) (i_5 : Int) (left_4 : Int), n_1.Marks = pre ++ suf → i_5 = (pre.length : Int) → diptychlaw18_light_l0 suf i_5 left_4 = some e0 → ∀ (nx : Nat) (g2 : Nat), I ⟨[(1, .int .i64 left_4), (2, .box 2 g2 0), (5, .int .i64 i_5)], [(2, g2, .var 28 [.str n_1.Kind, .str n_1.Text, .list 1 (n_1.Marks.map PV.str), .list 2 (n_1.Attrs.map api_Attr.pv), .list 5 (n_1.Kids.map api_Node.pv)])], nx⟩ := by
        intro suf
        induction suf with
        | nil =>
          intro pre i_5 left_4 hsplit hidx hh nx g2
          rw [diptychlaw18_light_l0] at hh
          refine hI _ ?_
          have h7 := walk_nil hsplit hidx
          refine awp_seq ?_
          refine awp_first fun K kk hK => ?_
          simp only [go_sem, h7, of_decide_eq_false h7, h7, of_decide_eq_false h7]
          (repeat refine sd ?_)
          refine hK _ _ fun nx => ?_; clear hK K; try clear kk
          refine awp_false rfl ?_
          refine awp_exit ?_; refine nmx ?_
          refine fragN ?_
          refine cut_id ?_
          refine ⟨_, (Option.some.inj hh), ?_⟩
          first | exact ⟨_, _, _, _, rfl⟩ | (simp only [api_Attr.pv_eq, api_Node.pv_eq, step_Step.pv_eq, diff_change.pv_eq, diptychref11_Step.pv_eq, pvL, List.map_cons, List.map_nil, List.map_append, rune1]; exact ⟨_, _, _, _, rfl⟩) | (simp only [api_Attr.pv_eq, api_Node.pv_eq, step_Step.pv_eq, diff_change.pv_eq, diptychref11_Step.pv_eq, pvL, List.map_cons, List.map_nil, List.map_append, rune1, h7]; exact ⟨_, _, _, _, rfl⟩)
        | cons y_7 suf ih =>
          intro pre i_5 left_4 hsplit hidx hh nx g2
          rw [diptychlaw18_light_l0] at hh
          refine hI _ ?_
          obtain ⟨hl0a, hl0b, hl0d, hl0w, h7⟩ := walk_cons (f := PV.str) hsplit hidx hlen0
          refine awp_seq ?_
          refine awp_first fun K kk hK => ?_
          simp only [go_sem, h7, of_decide_eq_true h7, h7, of_decide_eq_true h7, hl0a, hl0b, hl0d, hl0w]
          (repeat refine sd ?_)
          refine hK _ _ fun nx => ?_; clear hK K; try clear kk
          by_cases h8 : (decide (left_4 > (0 : Int))) = true
          · rw [if_pos h8] at hh
            refine awp_true (by first | exact congrArg PV.bool h8 | rfl) ?_
            refine awp_skip ?_; refine nmx ?_
            refine awp_seq ?_
            refine awp_block ?_
            refine awp_region fun K kk hK => ?_
            simp only [go_sem, hl0a, hl0b, hl0d, hl0w]
            refine hK _ _ fun nx => ?_; clear hK K; try clear kk
            refine nmx ?_
            refine awp_region fun K kk hK => ?_
            simp only [go_sem, hl0a, hl0b, hl0d, hl0w]
            refine hK _ _ fun nx => ?_; clear hK K; try clear kk
            refine nmx ?_
            have ih' := ih (pre ++ [y_7]) (i_5 + 1) _ (by rw [hsplit]; simp) (by simp [hidx]) hh nx
            refine cut_id ?_
            first | exact ih' _ | (simp only [api_Attr.pv_eq, api_Node.pv_eq, step_Step.pv_eq, diff_change.pv_eq, diptychref11_Step.pv_eq, pvL, List.map_cons, List.map_nil, List.map_append, rune1] at ih' ⊢; exact ih' _) | (simp only [api_Attr.pv_eq, api_Node.pv_eq, step_Step.pv_eq, diff_change.pv_eq, diptychref11_Step.pv_eq, pvL, List.map_cons, List.map_nil, List.map_append, rune1, h7, h8] at ih' ⊢; exact ih' _)
          · rw [if_neg h8] at hh
            replace h8 := Bool.eq_false_iff.mpr h8
            refine awp_false (by first | exact congrArg PV.bool h8 | rfl) ?_
            refine awp_exit ?_; refine nmx ?_
            refine fragN ?_
            refine cut_id ?_
            refine ⟨_, (Option.some.inj hh), ?_⟩
            first | exact ⟨_, _, _, _, rfl⟩ | (simp only [api_Attr.pv_eq, api_Node.pv_eq, step_Step.pv_eq, diff_change.pv_eq, diptychref11_Step.pv_eq, pvL, List.map_cons, List.map_nil, List.map_append, rune1]; exact ⟨_, _, _, _, rfl⟩) | (simp only [api_Attr.pv_eq, api_Node.pv_eq, step_Step.pv_eq, diff_change.pv_eq, diptychref11_Step.pv_eq, pvL, List.map_cons, List.map_nil, List.map_append, rune1, h7, h8]; exact ⟨_, _, _, _, rfl⟩)
      exact key n_1.Marks [] _ _ rfl rfl f0 _ _
    · rintro s ⟨t, hless, left_8, rfl, i_9, v_10, nx, g2, rfl⟩
      try dsimp only at hh
      refine nmy ?_
      first | (refine cut_less hless ?_; try refine cut_awp ?_) | refine frag_less hless ?_ | refine body_less hless ?_
      refine awp_seq ?_
      refine awp_first fun K kk hK => ?_
      simp only [go_sem]
      refine hK _ _ fun nx => ?_; clear hK K; try clear kk
      obtain ⟨e1, f1, hh⟩ := bind_ex hh
      obtain ⟨hlen1, f1⟩ := chk_some f1
      refine awp_fragE (CutTo (fun s => ∃ left_16, left_16 = e1 ∧ ∃ (i_17 : Int) (v_18 : Bool) (nx : Nat) (g2 : Nat), s = ⟨[(1, .int .i64 left_16), (2, .box 2 g2 0), (6, .int .i64 i_17), (46, .bool v_18)], [(2, g2, .var 28 [.str n_1.Kind, .str n_1.Text, .list 1 (n_1.Marks.map PV.str), .list 2 (n_1.Attrs.map api_Attr.pv), .list 5 (n_1.Kids.map api_Node.pv)])], nx⟩))
        (fun i s => False)
        (fun s => False) ?_ ?_ ?_ ?_
      · refine awp_block ?_
        refine awp_loopJ fun I hI => ?_
        have key : ∀ (suf pre : List api_Attr) (i_13 : Int) (left_12 : Int), n_1.Attrs = pre ++ suf → i_13 = (pre.length : Int) → diptychlaw18_light_l1 suf i_13 left_12 = some e1 → ∀ (nx : Nat) (g2 : Nat), I ⟨[(1, .int .i64 left_12), (2, .box 2 g2 0), (6, .int .i64 i_13)], [(2, g2, .var 28 [.str n_1.Kind, .str n_1.Text, .list 1 (n_1.Marks.map PV.str), .list 2 (n_1.Attrs.map api_Attr.pv), .list 5 (n_1.Kids.map api_Node.pv)])], nx⟩ := by
          intro suf
          induction suf with
          | nil =>
            intro pre i_13 left_12 hsplit hidx hh nx g2
            rw [diptychlaw18_light_l1] at hh
            refine hI _ ?_
            have h15 := walk_nil hsplit hidx
            refine awp_seq ?_
            refine awp_first fun K kk hK => ?_
            simp only [go_sem, h15, of_decide_eq_false h15, h15, of_decide_eq_false h15]
            (repeat refine sd ?_)
            refine hK _ _ fun nx => ?_; clear hK K; try clear kk
            refine awp_false rfl ?_
            refine awp_exit ?_; refine nmx ?_
            refine fragN ?_
            refine cut_id ?_
            refine ⟨_, (Option.some.inj hh), ?_⟩
            first | exact ⟨_, _, _, _, rfl⟩ | (simp only [api_Attr.pv_eq, api_Node.pv_eq, step_Step.pv_eq, diff_change.pv_eq, diptychref11_Step.pv_eq, pvL, List.map_cons, List.map_nil, List.map_append, rune1]; exact ⟨_, _, _, _, rfl⟩) | (simp only [api_Attr.pv_eq, api_Node.pv_eq, step_Step.pv_eq, diff_change.pv_eq, diptychref11_Step.pv_eq, pvL, List.map_cons, List.map_nil, List.map_append, rune1, h15]; exact ⟨_, _, _, _, rfl⟩)
          | cons y_15 suf ih =>
            intro pre i_13 left_12 hsplit hidx hh nx g2
            rw [diptychlaw18_light_l1] at hh
            refine hI _ ?_
            obtain ⟨hl1a, hl1b, hl1d, hl1w, h15⟩ := walk_cons (f := api_Attr.pv) hsplit hidx hlen1
            refine awp_seq ?_
            refine awp_first fun K kk hK => ?_
            simp only [go_sem, h15, of_decide_eq_true h15, h15, of_decide_eq_true h15, hl1a, hl1b, hl1d, hl1w]
            (repeat refine sd ?_)
            refine hK _ _ fun nx => ?_; clear hK K; try clear kk
            by_cases h16 : (decide (left_12 > (0 : Int))) = true
            · rw [if_pos h16] at hh
              refine awp_true (by first | exact congrArg PV.bool h16 | rfl) ?_
              refine awp_skip ?_; refine nmx ?_
              refine awp_seq ?_
              refine awp_block ?_
              refine awp_region fun K kk hK => ?_
              simp only [go_sem, hl1a, hl1b, hl1d, hl1w]
              refine hK _ _ fun nx => ?_; clear hK K; try clear kk
              refine nmx ?_
              refine awp_region fun K kk hK => ?_
              simp only [go_sem, hl1a, hl1b, hl1d, hl1w]
              refine hK _ _ fun nx => ?_; clear hK K; try clear kk
              refine nmx ?_
              have ih' := ih (pre ++ [y_15]) (i_13 + 1) _ (by rw [hsplit]; simp) (by simp [hidx]) hh nx
              refine cut_id ?_
              first | exact ih' _ | (simp only [api_Attr.pv_eq, api_Node.pv_eq, step_Step.pv_eq, diff_change.pv_eq, diptychref11_Step.pv_eq, pvL, List.map_cons, List.map_nil, List.map_append, rune1] at ih' ⊢; exact ih' _) | (simp only [api_Attr.pv_eq, api_Node.pv_eq, step_Step.pv_eq, diff_change.pv_eq, diptychref11_Step.pv_eq, pvL, List.map_cons, List.map_nil, List.map_append, rune1, h15, h16] at ih' ⊢; exact ih' _)
            · rw [if_neg h16] at hh
              replace h16 := Bool.eq_false_iff.mpr h16
              refine awp_false (by first | exact congrArg PV.bool h16 | rfl) ?_
              refine awp_exit ?_; refine nmx ?_
              refine fragN ?_
              refine cut_id ?_
              refine ⟨_, (Option.some.inj hh), ?_⟩
              first | exact ⟨_, _, _, _, rfl⟩ | (simp only [api_Attr.pv_eq, api_Node.pv_eq, step_Step.pv_eq, diff_change.pv_eq, diptychref11_Step.pv_eq, pvL, List.map_cons, List.map_nil, List.map_append, rune1]; exact ⟨_, _, _, _, rfl⟩) | (simp only [api_Attr.pv_eq, api_Node.pv_eq, step_Step.pv_eq, diff_change.pv_eq, diptychref11_Step.pv_eq, pvL, List.map_cons, List.map_nil, List.map_append, rune1, h15, h16]; exact ⟨_, _, _, _, rfl⟩)
        exact key n_1.Attrs [] _ _ rfl rfl f1 _ _
      · rintro s ⟨t, hless, left_16, rfl, i_17, v_18, nx, g2, rfl⟩
        try dsimp only at hh
        refine nmy ?_
        first | (refine cut_less hless ?_; try refine cut_awp ?_) | refine frag_less hless ?_ | refine body_less hless ?_
        refine awp_seq ?_
        refine awp_first fun K kk hK => ?_
        simp only [go_sem]
        refine hK _ _ fun nx => ?_; clear hK K; try clear kk
        obtain ⟨e2, f2, hh⟩ := bind_ex hh
        obtain ⟨hlen2, f2⟩ := chk_some f2
        refine awp_fragE (CutTo (fun s => ∃ left_27, left_27 = e2 ∧ ∃ (i_28 : Int) (v_29 : Bool) (nx : Nat) (g2 : Nat), s = ⟨[(1, .int .i64 left_27), (2, .box 2 g2 0), (7, .int .i64 i_28), (75, .bool v_29)], [(2, g2, .var 28 [.str n_1.Kind, .str n_1.Text, .list 1 (n_1.Marks.map PV.str), .list 2 (n_1.Attrs.map api_Attr.pv), .list 5 (n_1.Kids.map api_Node.pv)])], nx⟩))
          (fun i s => False)
          (fun s => False) ?_ ?_ ?_ ?_
        · refine awp_block ?_
          refine awp_loopJ fun I hI => ?_
          have key : ∀ (suf pre : List api_Node) (i_22 : Int) (left_21 : Int), n_1.Kids = pre ++ suf → i_22 = (pre.length : Int) → diptychlaw18_light_l2 (diptychlaw18_light_k kr) suf i_22 left_21 = some e2 → ∀ (nx : Nat) (g2 : Nat), I ⟨[(1, .int .i64 left_21), (2, .box 2 g2 0), (7, .int .i64 i_22)], [(2, g2, .var 28 [.str n_1.Kind, .str n_1.Text, .list 1 (n_1.Marks.map PV.str), .list 2 (n_1.Attrs.map api_Attr.pv), .list 5 (n_1.Kids.map api_Node.pv)])], nx⟩ := by
            intro suf
            induction suf with
            | nil =>
              intro pre i_22 left_21 hsplit hidx hh nx g2
              rw [diptychlaw18_light_l2] at hh
              refine hI _ ?_
              have h25 := walk_nil hsplit hidx
              refine awp_seq ?_
              refine awp_first fun K kk hK => ?_
              simp only [go_sem, h25, of_decide_eq_false h25, h25, of_decide_eq_false h25]
              (repeat refine sd ?_)
              refine hK _ _ fun nx => ?_; clear hK K; try clear kk
              refine awp_false rfl ?_
              refine awp_exit ?_; refine nmx ?_
              refine fragN ?_
              refine cut_id ?_
              refine ⟨_, (Option.some.inj hh), ?_⟩
              first | exact ⟨_, _, _, _, rfl⟩ | (simp only [api_Attr.pv_eq, api_Node.pv_eq, step_Step.pv_eq, diff_change.pv_eq, diptychref11_Step.pv_eq, pvL, List.map_cons, List.map_nil, List.map_append, rune1]; exact ⟨_, _, _, _, rfl⟩) | (simp only [api_Attr.pv_eq, api_Node.pv_eq, step_Step.pv_eq, diff_change.pv_eq, diptychref11_Step.pv_eq, pvL, List.map_cons, List.map_nil, List.map_append, rune1, h25]; exact ⟨_, _, _, _, rfl⟩)
            | cons y_25 suf ih =>
              intro pre i_22 left_21 hsplit hidx hh nx g2
              rw [diptychlaw18_light_l2] at hh
              refine hI _ ?_
              obtain ⟨hl2a, hl2b, hl2d, hl2w, h25⟩ := walk_cons (f := api_Node.pv) hsplit hidx hlen2
              refine awp_seq ?_
              refine awp_first fun K kk hK => ?_
              simp only [go_sem, h25, of_decide_eq_true h25, h25, of_decide_eq_true h25, hl2a, hl2b, hl2d, hl2w]
              (repeat refine sd ?_)
              refine hK _ _ fun nx => ?_; clear hK K; try clear kk
              by_cases h26 : (decide (left_21 > (0 : Int))) = true
              · rw [if_pos h26] at hh
                refine awp_true (by first | exact congrArg PV.bool h26 | rfl) ?_
                refine awp_skip ?_; refine nmx ?_
                refine awp_seq ?_
                refine awp_block ?_
                obtain ⟨light_26, h27, hh⟩ := bind_ex hh
                refine awp_region fun K kk hK => ?_
                simp only [go_sem, hl2a, hl2b, hl2d, hl2w]
                refine step_call2 (ih_diptychlaw18_light _ _ _ h27) (by (try simp only [go_sem, hl2a, hl2b, hl2d, hl2w]) <;> exact wkl) (by rfl) (by rfl) ?_
                simp only [go_sem, hl2a, hl2b, hl2d, hl2w]
                refine hK _ _ fun nx => ?_; clear hK K; try clear kk
                refine nmx ?_
                refine awp_region fun K kk hK => ?_
                simp only [go_sem, hl2a, hl2b, hl2d, hl2w]
                refine hK _ _ fun nx => ?_; clear hK K; try clear kk
                refine nmx ?_
                have ih' := ih (pre ++ [y_25]) (i_22 + 1) _ (by rw [hsplit]; simp) (by simp [hidx]) hh nx
                refine cut_id ?_
                first | exact ih' _ | (simp only [api_Attr.pv_eq, api_Node.pv_eq, step_Step.pv_eq, diff_change.pv_eq, diptychref11_Step.pv_eq, pvL, List.map_cons, List.map_nil, List.map_append, rune1] at ih' ⊢; exact ih' _) | (simp only [api_Attr.pv_eq, api_Node.pv_eq, step_Step.pv_eq, diff_change.pv_eq, diptychref11_Step.pv_eq, pvL, List.map_cons, List.map_nil, List.map_append, rune1, h25, h26] at ih' ⊢; exact ih' _)
              · rw [if_neg h26] at hh
                replace h26 := Bool.eq_false_iff.mpr h26
                refine awp_false (by first | exact congrArg PV.bool h26 | rfl) ?_
                refine awp_exit ?_; refine nmx ?_
                refine fragN ?_
                refine cut_id ?_
                refine ⟨_, (Option.some.inj hh), ?_⟩
                first | exact ⟨_, _, _, _, rfl⟩ | (simp only [api_Attr.pv_eq, api_Node.pv_eq, step_Step.pv_eq, diff_change.pv_eq, diptychref11_Step.pv_eq, pvL, List.map_cons, List.map_nil, List.map_append, rune1]; exact ⟨_, _, _, _, rfl⟩) | (simp only [api_Attr.pv_eq, api_Node.pv_eq, step_Step.pv_eq, diff_change.pv_eq, diptychref11_Step.pv_eq, pvL, List.map_cons, List.map_nil, List.map_append, rune1, h25, h26]; exact ⟨_, _, _, _, rfl⟩)
          exact key n_1.Kids [] _ _ rfl rfl f2 _ _
        · rintro s ⟨t, hless, left_27, rfl, i_28, v_29, nx, g2, rfl⟩
          try dsimp only at hh
          refine nmy ?_
          first | (refine cut_less hless ?_; try refine cut_awp ?_) | refine frag_less hless ?_ | refine body_less hless ?_
          refine awp_seq ?_
          refine awp_first fun K kk hK => ?_
          simp only [go_sem]
          refine hK _ _ fun nx => ?_; clear hK K; try clear kk
          by_cases h28 : (decide (left_27 < (1 : Int))) = true
          · rw [if_pos h28] at hh
            refine awp_true (by first | exact congrArg PV.bool h28 | rfl) ?_
            refine awp_first fun K kk hK => ?_
            simp only [go_sem]
            refine hK _ _ fun nx => ?_; clear hK K; try clear kk
            refine awp_ret ?_; refine nmx ?_
            obtain hR := Option.some.inj hh
            subst hR
            exact ret_p2
          · rw [if_neg h28] at hh
            replace h28 := Bool.eq_false_iff.mpr h28
            refine awp_false (by first | exact congrArg PV.bool h28 | rfl) ?_
            refine awp_skip ?_; refine nmx ?_
            refine awp_first fun K kk hK => ?_
            simp only [go_sem]
            refine hK _ _ fun nx => ?_; clear hK K; try clear kk
            refine awp_ret ?_; refine nmx ?_
            obtain hR := Option.some.inj hh
            subst hR
            exact ret_p2
        · intro i s h; exact h.elim
        · intro s h; exact h.elim
      · intro i s h; exact h.elim
      · intro s h; exact h.elim
    · intro i s h; exact h.elim
    · intro s h; exact h.elim
theorem diptychlaw18_light_ok (n_1 : api_Node) (left_2 : Int) (R : Int) (hh : diptychlaw18_light n_1 left_2 = some R) : PC Tryd.prog 19 [.agg [.str n_1.Kind, .str n_1.Text, .list 1 (n_1.Marks.map PV.str), .list 2 (n_1.Attrs.map api_Attr.pv), .list 5 (n_1.Kids.map api_Node.pv)], .int .i64 left_2] (.int .i64 R) := by
  rw [diptychlaw18_light] at hh
  obtain ⟨kr, hh⟩ := lim_some hh
  exact (diptychlaw18_light_grp kr) _ _ _ hh
theorem diptychref18_alike_ok (a_1 : api_Node) (b_2 : api_Node) (R : Bool) (hh : diptychref18_alike a_1 b_2 = some R) : PC Tryd.prog 61 [.agg [.str a_1.Kind, .str a_1.Text, .list 1 (a_1.Marks.map PV.str), .list 2 (a_1.Attrs.map api_Attr.pv), .list 5 (a_1.Kids.map api_Node.pv)], .agg [.str b_2.Kind, .str b_2.Text, .list 1 (b_2.Marks.map PV.str), .list 2 (b_2.Attrs.map api_Attr.pv), .list 5 (b_2.Kids.map api_Node.pv)]] (.bool R) := by
  rw [diptychref18_alike] at hh
  refine start_diptychref18_alike rfl ?_
  refine awp_first fun K kk hK => ?_
  simp only [go_sem]
  refine hK _ _ fun nx => ?_; clear hK K; try clear kk
  refine awp_seq ?_
  by_cases h1 : (a_1.Kind == ([116, 101, 120, 116] : Str)) = true
  · rw [if_pos h1] at hh
    refine awp_first fun K kk hK => ?_
    simp only [go_sem, h1, h1]
    (repeat refine sd ?_)
    refine hK _ _ fun nx => ?_; clear hK K; try clear kk
    refine awp_true rfl ?_
    refine awp_first fun K kk hK => ?_
    simp only [go_sem]
    refine hK _ _ fun nx => ?_; clear hK K; try clear kk
    refine awp_ret ?_; refine nmx ?_
    obtain hR := Option.some.inj hh
    subst hR
    exact ret_p2
  · rw [if_neg h1] at hh
    replace h1 := Bool.eq_false_iff.mpr h1
    by_cases h2 : (b_2.Kind == ([116, 101, 120, 116] : Str)) = true
    · rw [if_pos h2] at hh
      refine awp_first fun K kk hK => ?_
      simp only [go_sem, h1, h1, h2, h2]
      (repeat refine sd ?_)
      refine hK _ _ fun nx => ?_; clear hK K; try clear kk
      refine awp_true rfl ?_
      refine awp_first fun K kk hK => ?_
      simp only [go_sem]
      refine hK _ _ fun nx => ?_; clear hK K; try clear kk
      refine awp_ret ?_; refine nmx ?_
      obtain hR := Option.some.inj hh
      subst hR
      exact ret_p2
    · rw [if_neg h2] at hh
      replace h2 := Bool.eq_false_iff.mpr h2
      by_cases h3 : (!(a_1.Kind == b_2.Kind)) = true
      · rw [if_pos h3] at hh
        refine awp_first fun K kk hK => ?_
        simp only [go_sem, h1, h1, h2, h2, h3, h3]
        (repeat refine sd ?_)
        refine hK _ _ fun nx => ?_; clear hK K; try clear kk
        refine awp_true rfl ?_
        refine awp_first fun K kk hK => ?_
        simp only [go_sem]
        refine hK _ _ fun nx => ?_; clear hK K; try clear kk
        refine awp_ret ?_; refine nmx ?_
        obtain hR := Option.some.inj hh
        subst hR
        exact ret_p2
      · rw [if_neg h3] at hh
        replace h3 := Bool.eq_false_iff.mpr h3
        refine awp_first fun K kk hK => ?_
        simp only [go_sem, h1, h1, h2, h2, h3, h3]
        (repeat refine sd ?_)
        refine hK _ _ fun nx => ?_; clear hK K; try clear kk
        by_cases h4 : ((a_1.Attrs.length : Int) != (b_2.Attrs.length : Int)) = true
        · rw [if_pos h4] at hh
          refine awp_true (by first | exact congrArg PV.bool h4 | rfl) ?_
          refine awp_first fun K kk hK => ?_
          simp only [go_sem]
          refine hK _ _ fun nx => ?_; clear hK K; try clear kk
          refine awp_ret ?_; refine nmx ?_
          obtain hR := Option.some.inj hh
          subst hR
          exact ret_p2
        · rw [if_neg h4] at hh
          replace h4 := Bool.eq_false_iff.mpr h4
          refine awp_false (by first | exact congrArg PV.bool h4 | rfl) ?_
          refine awp_skip ?_; refine nmx ?_
          refine awp_seq ?_
          refine awp_first fun K kk hK => ?_
          simp only [go_sem]
          refine hK _ _ fun nx => ?_; clear hK K; try clear kk
          obtain ⟨e0, f0, hh⟩ := bind_ex hh
          obtain ⟨hlen0, f0⟩ := chk_some f0
          refine awp_fragE (CutTo (fun s => .inr () = e0 ∧ ∃ (i_11 : Int) (v_12 : Bool) (nx : Nat) (g2 : Nat) (g3 : Nat), s = ⟨[(2, .box 2 g2 0), (3, .box 3 g3 0), (5, .int .i64 i_11), (34, .bool v_12)], [(2, g2, .var 28 [.str a_1.Kind, .str a_1.Text, .list 1 (a_1.Marks.map PV.str), .list 2 (a_1.Attrs.map api_Attr.pv), .list 5 (a_1.Kids.map api_Node.pv)]), (3, g3, .var 28 [.str b_2.Kind, .str b_2.Text, .list 1 (b_2.Marks.map PV.str), .list 2 (b_2.Attrs.map api_Attr.pv), .list 5 (b_2.Kids.map api_Node.pv)])], nx⟩))
            (fun i s => False)
            (fun s => ∃ res_10, .inl res_10 = e0 ∧ bodyR Tryd.prog [.tmp 4] (.bool res_10) [] .ret s) ?_ ?_ ?_ ?_
          · refine awp_block ?_
            refine awp_loopJ fun I hI => ?_
            have key : ∀ (suf pre : List api_Attr) (i_5 : Int), a_1.Attrs = pre ++ suf → i_5 = (pre.length : Int) → diptychref18_alike_l0 b_2 suf i_5 = some e0 → ∀ (nx : Nat) (g2 : Nat) (g3 : Nat), I ⟨[(2, .box 2 g2 0), (3, .box 3 g3 0), (5, .int .i64 i_5)], [(2, g2, .var 28 [.str a_1.Kind, .str a_1.Text, .list 1 (a_1.Marks.map PV.str), .list 2 (a_1.Attrs.map api_Attr.pv), .list 5 (a_1.Kids.map api_Node.pv)]), (3, g3, .var 28 [.str b_2.Kind, .str b_2.Text, .list 1 (b_2.Marks.map PV.str), .list 2 (b_2.Attrs.map api_Attr.pv), .list 5 (b_2.Kids.map api_Node.pv)])], nx⟩ := by
              intro suf
              induction suf with
              | nil =>
                intro pre i_5 hsplit hidx hh nx g2 g3
                rw [diptychref18_alike_l0] at hh
                refine hI _ ?_
                have h13 := walk_nil hsplit hidx
                refine awp_seq ?_
                refine awp_first fun K kk hK => ?_
                simp only [go_sem]
                refine hK _ _ fun nx => ?_; clear hK K; try clear kk
                refine awp_false (by first | exact congrArg PV.bool h13 | rfl) ?_
                refine awp_exit ?_; refine nmx ?_
                refine fragN ?_
                refine cut_id ?_
                refine ⟨(Option.some.inj hh), ?_⟩
                first | exact ⟨_, _, _, _, _, rfl⟩ | (simp only [api_Attr.pv_eq, api_Node.pv_eq, step_Step.pv_eq, diff_change.pv_eq, diptychref11_Step.pv_eq, pvL, List.map_cons, List.map_nil, List.map_append, rune1]; exact ⟨_, _, _, _, _, rfl⟩) | (simp only [api_Attr.pv_eq, api_Node.pv_eq, step_Step.pv_eq, diff_change.pv_eq, diptychref11_Step.pv_eq, pvL, List.map_cons, List.map_nil, List.map_append, rune1, h1, h13, h2, h3, h4]; exact ⟨_, _, _, _, _, rfl⟩)
              | cons y_8 suf ih =>
                intro pre i_5 hsplit hidx hh nx g2 g3
                rw [diptychref18_alike_l0] at hh
                refine hI _ ?_
                obtain ⟨hl0a, hl0b, hl0d, hl0w, h13⟩ := walk_cons (f := api_Attr.pv) hsplit hidx hlen0
                refine awp_seq ?_
                refine awp_first fun K kk hK => ?_
                simp only [go_sem]
                refine hK _ _ fun nx => ?_; clear hK K; try clear kk
                refine awp_true (by first | exact congrArg PV.bool h13 | rfl) ?_
                refine awp_skip ?_; refine nmx ?_
                refine awp_seq ?_
                refine awp_block ?_
                obtain ⟨x_9, h14, hh⟩ := bind_ex hh
                obtain ⟨h14a, h14b, h14c⟩ := rd_some h14
                have h14d := rd_get (f := api_Attr.pv) h14c
                have h14f := rd_more (f := api_Attr.pv) h14c
                try simp only [Int.toNat_natCast, Int.reduceToNat] at h14d h14f
                refine awp_first fun K kk hK => ?_
                simp only [go_sem, h14a, h14b, h14d, h14f.1, h14f.2, hl0a, hl0b, hl0d, hl0w]
                (repeat refine sd ?_)
                refine hK _ _ fun nx => ?_; clear hK K; try clear kk
                by_cases h15 : (!(y_8.Name == x_9.Name)) = true
                · rw [if_pos h15] at hh
                  refine awp_true (by first | exact congrArg PV.bool h15 | rfl) ?_
                  refine awp_first fun K kk hK => ?_
                  simp only [go_sem, hl0a, hl0b, hl0d, hl0w]
                  refine hK _ _ fun nx => ?_; clear hK K; try clear kk
                  refine awp_ret ?_; refine nmx ?_
                  refine fragR ⟨_, (Option.some.inj hh), ?_⟩
                  exact ret_p2
                · rw [if_neg h15] at hh
                  replace h15 := Bool.eq_false_iff.mpr h15
                  refine awp_false (by first | exact congrArg PV.bool h15 | rfl) ?_
                  refine awp_skip ?_; refine nmx ?_
                  refine awp_region fun K kk hK => ?_
                  simp only [go_sem, hl0a, hl0b, hl0d, hl0w]
                  refine hK _ _ fun nx => ?_; clear hK K; try clear kk
                  refine nmx ?_
                  have ih' := ih (pre ++ [y_8]) (i_5 + 1) (by rw [hsplit]; simp) (by simp [hidx]) hh nx
                  refine cut_id ?_
                  first | exact ih' _ _ | (simp only [api_Attr.pv_eq, api_Node.pv_eq, step_Step.pv_eq, diff_change.pv_eq, diptychref11_Step.pv_eq, pvL, List.map_cons, List.map_nil, List.map_append, rune1] at ih' ⊢; exact ih' _ _) | (simp only [api_Attr.pv_eq, api_Node.pv_eq, step_Step.pv_eq, diff_change.pv_eq, diptychref11_Step.pv_eq, pvL, List.map_cons, List.map_nil, List.map_append, rune1, h1, h13, h15, h2, h3, h4] at ih' ⊢; exact ih' _ _)
            exact key a_1.Attrs [] _ rfl rfl f0 _ _ _
          · rintro s ⟨t, hless, rfl, i_11, v_12, nx, g2, g3, rfl⟩
            try dsimp only at hh
            refine nmy ?_
            first | (refine cut_less hless ?_; try refine cut_awp ?_) | refine frag_less hless ?_ | refine body_less hless ?_
            refine awp_first fun K kk hK => ?_
            simp only [go_sem]
            refine hK _ _ fun nx => ?_; clear hK K; try clear kk
            refine awp_ret ?_; refine nmx ?_
            obtain hR := Option.some.inj hh
            subst hR
            exact ret_p2
          · intro i s h; exact h.elim
          · rintro s ⟨res_10, rfl, hb⟩
            try dsimp only at hh
            obtain hR := Option.some.inj hh
            subst hR
            refine nmx ?_
            exact hb
theorem diptychref1_sameNames_ok (a_1 : (List Str)) (b_2 : (List Str)) (R : Bool) (hh : diptychref1_sameNames a_1 b_2 = some R) : PC Tryd.prog 92 [.list 1 (a_1.map PV.str), .list 1 (b_2.map PV.str)] (.bool R) := by
  rw [diptychref1_sameNames] at hh
  refine start_diptychref1_sameNames rfl ?_
  refine awp_first fun K kk hK => ?_
  simp only [go_sem]
  refine hK _ _ fun nx => ?_; clear hK K; try clear kk
  refine awp_seq ?_
  refine awp_first fun K kk hK => ?_
  simp only [go_sem]
  refine hK _ _ fun nx => ?_; clear hK K; try clear kk
  by_cases h1 : ((a_1.length : Int) != (b_2.length : Int)) = true
  · rw [if_pos h1] at hh
    refine awp_true (by first | exact congrArg PV.bool h1 | rfl) ?_
    refine awp_first fun K kk hK => ?_
    simp only [go_sem]
    refine hK _ _ fun nx => ?_; clear hK K; try clear kk
    refine awp_ret ?_; refine nmx ?_
    obtain hR := Option.some.inj hh
    subst hR
    exact ret_p2
  · rw [if_neg h1] at hh
    replace h1 := Bool.eq_false_iff.mpr h1
    refine awp_false (by first | exact congrArg PV.bool h1 | rfl) ?_
    refine awp_skip ?_; refine nmx ?_
    refine awp_seq ?_
    refine awp_first fun K kk hK => ?_
    simp only [go_sem]
    refine hK _ _ fun nx => ?_; clear hK K; try clear kk
    obtain ⟨e0, f0, hh⟩ := bind_ex hh
    obtain ⟨hlen0, f0⟩ := chk_some f0
    refine awp_fragE (CutTo (fun s => .inr () = e0 ∧ ∃ (i_11 : Int) (v_12 : Bool) (nx : Nat), s = ⟨[(0, .list 1 (a_1.map PV.str)), (1, .list 1 (b_2.map PV.str)), (5, .int .i64 i_11), (14, .bool v_12)], [], nx⟩))
      (fun i s => False)
      (fun s => ∃ res_10, .inl res_10 = e0 ∧ bodyR Tryd.prog [.tmp 4] (.bool res_10) [] .ret s) ?_ ?_ ?_ ?_
    · refine awp_block ?_
      refine awp_loopJ fun I hI => ?_
      have key : ∀ (suf pre : List Str) (i_5 : Int), a_1 = pre ++ suf → i_5 = (pre.length : Int) → diptychref1_sameNames_l0 b_2 suf i_5 = some e0 → ∀ (nx : Nat), I ⟨[(0, .list 1 (a_1.map PV.str)), (1, .list 1 (b_2.map PV.str)), (5, .int .i64 i_5)], [], nx⟩ := by
        intro suf
        induction suf with
        | nil =>
          intro pre i_5 hsplit hidx hh nx
          rw [diptychref1_sameNames_l0] at hh
          refine hI _ ?_
          have h10 := walk_nil hsplit hidx
          refine awp_seq ?_
          refine awp_first fun K kk hK => ?_
          simp only [go_sem]
          refine hK _ _ fun nx => ?_; clear hK K; try clear kk
          refine awp_false (by first | exact congrArg PV.bool h10 | rfl) ?_
          refine awp_exit ?_; refine nmx ?_
          refine fragN ?_
          refine cut_id ?_
          refine ⟨(Option.some.inj hh), ?_⟩
          first | exact ⟨_, _, _, rfl⟩ | (simp only [api_Attr.pv_eq, api_Node.pv_eq, step_Step.pv_eq, diff_change.pv_eq, diptychref11_Step.pv_eq, pvL, List.map_cons, List.map_nil, List.map_append, rune1]; exact ⟨_, _, _, rfl⟩) | (simp only [api_Attr.pv_eq, api_Node.pv_eq, step_Step.pv_eq, diff_change.pv_eq, diptychref11_Step.pv_eq, pvL, List.map_cons, List.map_nil, List.map_append, rune1, h1, h10]; exact ⟨_, _, _, rfl⟩)
        | cons y_8 suf ih =>
          intro pre i_5 hsplit hidx hh nx
          rw [diptychref1_sameNames_l0] at hh
          refine hI _ ?_
          obtain ⟨hl0a, hl0b, hl0d, hl0w, h10⟩ := walk_cons (f := PV.str) hsplit hidx hlen0
          refine awp_seq ?_
          refine awp_first fun K kk hK => ?_
          simp only [go_sem]
          refine hK _ _ fun nx => ?_; clear hK K; try clear kk
          refine awp_true (by first | exact congrArg PV.bool h10 | rfl) ?_
          refine awp_skip ?_; refine nmx ?_
          refine awp_seq ?_
          refine awp_block ?_
          obtain ⟨x_9, h11, hh⟩ := bind_ex hh
          obtain ⟨h11a, h11b, h11c⟩ := rd_some h11
          have h11d := rd_get (f := PV.str) h11c
          have h11f := rd_more (f := PV.str) h11c
          try simp only [Int.toNat_natCast, Int.reduceToNat] at h11d h11f
          refine awp_first fun K kk hK => ?_
          simp only [go_sem, h11a, h11b, h11d, h11f.1, h11f.2, hl0a, hl0b, hl0d, hl0w]
          (repeat refine sd ?_)
          refine hK _ _ fun nx => ?_; clear hK K; try clear kk
          by_cases h12 : (!(y_8 == x_9)) = true
          · rw [if_pos h12] at hh
            refine awp_true (by first | exact congrArg PV.bool h12 | rfl) ?_
            refine awp_first fun K kk hK => ?_
            simp only [go_sem, hl0a, hl0b, hl0d, hl0w]
            refine hK _ _ fun nx => ?_; clear hK K; try clear kk
            refine awp_ret ?_; refine nmx ?_
            refine fragR ⟨_, (Option.some.inj hh), ?_⟩
            exact ret_p2
          · rw [if_neg h12] at hh
            replace h12 := Bool.eq_false_iff.mpr h12
            refine awp_false (by first | exact congrArg PV.bool h12 | rfl) ?_
            refine awp_skip ?_; refine nmx ?_
            refine awp_region fun K kk hK => ?_
            simp only [go_sem, hl0a, hl0b, hl0d, hl0w]
            refine hK _ _ fun nx => ?_; clear hK K; try clear kk
            refine nmx ?_
            have ih' := ih (pre ++ [y_8]) (i_5 + 1) (by rw [hsplit]; simp) (by simp [hidx]) hh nx
            refine cut_id ?_
            first | exact ih' | (simp only [api_Attr.pv_eq, api_Node.pv_eq, step_Step.pv_eq, diff_change.pv_eq, diptychref11_Step.pv_eq, pvL, List.map_cons, List.map_nil, List.map_append, rune1] at ih' ⊢; exact ih') | (simp only [api_Attr.pv_eq, api_Node.pv_eq, step_Step.pv_eq, diff_change.pv_eq, diptychref11_Step.pv_eq, pvL, List.map_cons, List.map_nil, List.map_append, rune1, h1, h10, h12] at ih' ⊢; exact ih')
      exact key a_1 [] _ rfl rfl f0 _
    · rintro s ⟨t, hless, rfl, i_11, v_12, nx, rfl⟩
      try dsimp only at hh
      refine nmy ?_
      first | (refine cut_less hless ?_; try refine cut_awp ?_) | refine frag_less hless ?_ | refine body_less hless ?_
      refine awp_first fun K kk hK => ?_
      simp only [go_sem]
      refine hK _ _ fun nx => ?_; clear hK K; try clear kk
      refine awp_ret ?_; refine nmx ?_
      obtain hR := Option.some.inj hh
      subst hR
      exact ret_p2
    · intro i s h; exact h.elim
    · rintro s ⟨res_10, rfl, hb⟩
      try dsimp only at hh
      obtain hR := Option.some.inj hh
      subst hR
      refine nmx ?_
      exact hb

end Go.Proofs.YtblielhogcnnkaaDoor
