/- What the functions answer, the program answers (3). -/
import Derived.Test.YtpjdafhmneiohaaDoorAgC
import Derived.Test.YtpjdafhmneiohaaDoorAgF
import Derived.Test.YtpjdafhmneiohaaDoorAgK0
import Derived.Test.YtpjdafhmneiohaaDoorAgK1
import Derived.Test.YtpjdafhmneiohaaDoorAgK2
namespace Go.Proofs.YtpjdafhmneiohaaDoor
set_option linter.unusedSimpArgs false
set_option linter.unusedVariables false
open Go
set_option maxRecDepth 100000

theorem diff_Steps_ok (a_1 : api_Node) (b_2 : api_Node) (R : ((List step_Step) × Int)) (hh : diff_Steps a_1 b_2 = some R) : PC Tryd.prog 20 [.agg [.str a_1.Kind, .str a_1.Text, .list 1 (a_1.Marks.map PV.str), .list 2 (a_1.Attrs.map api_Attr.pv), .list 5 (a_1.Kids.map api_Node.pv)], .agg [.str b_2.Kind, .str b_2.Text, .list 1 (b_2.Marks.map PV.str), .list 2 (b_2.Attrs.map api_Attr.pv), .list 5 (b_2.Kids.map api_Node.pv)]] (.tup [.list 6 (R.1.map step_Step.pv), .int .i64 R.2]) := by
  rw [diff_Steps] at hh
  refine start_diff_Steps rfl ?_
  refine awp_first fun K kk hK => ?_
  simp only [go_sem]
  refine hK _ _ fun nx => ?_; clear hK K; try clear kk
  refine awp_seq ?_
  obtain ⟨right_3, h1, hh⟩ := bind_ex hh
  by_cases h2 : (!right_3) = true
  · rw [if_pos h2] at hh
    refine awp_first fun K kk hK => ?_
    simp only [go_sem, h2, h2]
    (repeat refine sd ?_)
    refine step_call2 (node_Right_ok _ _ h1) (by (try simp only [go_sem, h2, h2]) <;> exact wkl) (by rfl) (by rfl) ?_
    simp only [go_sem, h2, h2]
    (repeat refine sd ?_)
    refine hK _ _ fun nx => ?_; clear hK K; try clear kk
    refine awp_true rfl ?_
    refine awp_first fun K kk hK => ?_
    simp only [go_sem]
    refine hK _ _ fun nx => ?_; clear hK K; try clear kk
    refine awp_ret ?_; refine nmx ?_
    obtain hR := Option.some.inj hh
    subst hR
    exact ret_p2
  · rw [if_neg h2] at hh
    replace h2 := Bool.eq_false_iff.mpr h2
    obtain ⟨right_4, h3, hh⟩ := bind_ex hh
    by_cases h4 : (!right_4) = true
    · rw [if_pos h4] at hh
      refine awp_first fun K kk hK => ?_
      simp only [go_sem, h2, h2, h4, h4]
      (repeat refine sd ?_)
      refine step_call2 (node_Right_ok _ _ h1) (by (try simp only [go_sem, h2, h2, h4, h4]) <;> exact wkl) (by rfl) (by rfl) ?_
      simp only [go_sem, h2, h2, h4, h4]
      (repeat refine sd ?_)
      refine step_call2 (node_Right_ok _ _ h3) (by (try simp only [go_sem, h2, h2, h4, h4]) <;> exact wkl) (by rfl) (by rfl) ?_
      simp only [go_sem, h2, h2, h4, h4]
      (repeat refine sd ?_)
      refine hK _ _ fun nx => ?_; clear hK K; try clear kk
      refine awp_true rfl ?_
      refine awp_first fun K kk hK => ?_
      simp only [go_sem]
      refine hK _ _ fun nx => ?_; clear hK K; try clear kk
      refine awp_ret ?_; refine nmx ?_
      obtain hR := Option.some.inj hh
      subst hR
      exact ret_p2
    · rw [if_neg h4] at hh
      replace h4 := Bool.eq_false_iff.mpr h4
      obtain ⟨alike_5, h5, hh⟩ := bind_ex hh
      refine awp_first fun K kk hK => ?_
      simp only [go_sem, h2, h2, h4, h4]
      (repeat refine sd ?_)
      refine step_call2 (node_Right_ok _ _ h1) (by (try simp only [go_sem, h2, h2, h4, h4]) <;> exact wkl) (by rfl) (by rfl) ?_
      simp only [go_sem, h2, h2, h4, h4]
      (repeat refine sd ?_)
      refine step_call2 (node_Right_ok _ _ h3) (by (try simp only [go_sem, h2, h2, h4, h4]) <;> exact wkl) (by rfl) (by rfl) ?_
      simp only [go_sem, h2, h2, h4, h4]
      (repeat refine sd ?_)
      refine step_call2 (diff_alike_ok _ _ _ h5) (by (try simp only [go_sem, h2, h2, h4, h4]) <;> exact wkl) (by rfl) (by rfl) ?_
      simp only [go_sem, h2, h2, h4, h4]
      (repeat refine sd ?_)
      refine hK _ _ fun nx => ?_; clear hK K; try clear kk
      by_cases h6 : (!alike_5) = true
      · rw [if_pos h6] at hh
        refine awp_true (by first | exact congrArg PV.bool h6 | rfl) ?_
        refine awp_first fun K kk hK => ?_
        simp only [go_sem]
        refine hK _ _ fun nx => ?_; clear hK K; try clear kk
        refine awp_ret ?_; refine nmx ?_
        obtain hR := Option.some.inj hh
        subst hR
        exact ret_p2
      · rw [if_neg h6] at hh
        replace h6 := Bool.eq_false_iff.mpr h6
        refine awp_false (by first | exact congrArg PV.bool h6 | rfl) ?_
        refine awp_skip ?_; refine nmx ?_
        obtain ⟨of_6, h7, hh⟩ := bind_ex hh
        refine awp_first fun K kk hK => ?_
        simp only [go_sem]
        refine step_call2 (diff_of_ok _ _ _ h7) (by (try simp only [go_sem]) <;> exact wkl) (by rfl) (by rfl) ?_
        simp only [go_sem]
        refine hK _ _ fun nx => ?_; clear hK K; try clear kk
        refine awp_seq ?_
        refine awp_first fun K kk hK => ?_
        simp only [go_sem]
        refine hK _ _ fun nx => ?_; clear hK K; try clear kk
        by_cases h8 : ((w64 (of_6.m + of_6.n)) == (0 : Int)) = true
        · rw [if_pos h8] at hh
          refine awp_true (by first | exact congrArg PV.bool h8 | rfl) ?_
          refine awp_first fun K kk hK => ?_
          simp only [go_sem]
          refine hK _ _ fun nx => ?_; clear hK K; try clear kk
          refine awp_ret ?_; refine nmx ?_
          obtain hR := Option.some.inj hh
          subst hR
          exact ret_p2
        · rw [if_neg h8] at hh
          replace h8 := Bool.eq_false_iff.mpr h8
          refine awp_false (by first | exact congrArg PV.bool h8 | rfl) ?_
          refine awp_skip ?_; refine nmx ?_
          obtain ⟨s_7, h9, hh⟩ := bind_ex hh
          obtain ⟨h9a, h9c⟩ := sl_some h9
          have h9g := sl_le h9a
          have h9d := sl_map0 (f := api_Node.pv) h9c
          try simp only [Int.toNat_natCast, Int.reduceToNat, List.map_cons, List.map_nil, diptychlaw18_Cell.pv_eq, api_Attr.pv_eq, api_Node.pv_eq, step_Step.pv_eq, diff_change.pv_eq, maps_Range.pv_eq, pvL] at h9d
          obtain ⟨total_8, h10, hh⟩ := bind_ex hh
          refine awp_first fun K kk hK => ?_
          simp only [go_sem, h9a.1, h9a.2.1, h9a.2.2, h9d, h9g]
          (repeat refine sd ?_)
          refine step_call2 (node_Total_ok _ _ h10) (by (try simp only [go_sem, h9a.1, h9a.2.1, h9a.2.2, h9d, h9g]) <;> exact wkl) (by rfl) (by rfl) ?_
          simp only [go_sem, h9a.1, h9a.2.1, h9a.2.2, h9d, h9g]
          (repeat refine sd ?_)
          refine hK _ _ fun nx => ?_; clear hK K; try clear kk
          obtain ⟨s_9, h11, hh⟩ := bind_ex hh
          obtain ⟨h11a, h11c⟩ := sl_some h11
          have h11g := sl_le h11a
          have h11d := sl_map (f := api_Node.pv) h11c
          try simp only [Int.toNat_natCast, Int.reduceToNat, List.map_cons, List.map_nil, diptychlaw18_Cell.pv_eq, api_Attr.pv_eq, api_Node.pv_eq, step_Step.pv_eq, diff_change.pv_eq, maps_Range.pv_eq, pvL] at h11d
          obtain ⟨total_10, h12, hh⟩ := bind_ex hh
          refine awp_first fun K kk hK => ?_
          simp only [go_sem, h11a.1, h11a.2.1, h11a.2.2, h11d, h11g]
          (repeat refine sd ?_)
          refine step_call2 (node_Total_ok _ _ h12) (by (try simp only [go_sem, h11a.1, h11a.2.1, h11a.2.2, h11d, h11g]) <;> exact wkl) (by rfl) (by rfl) ?_
          simp only [go_sem, h11a.1, h11a.2.1, h11a.2.2, h11d, h11g]
          (repeat refine sd ?_)
          refine hK _ _ fun nx => ?_; clear hK K; try clear kk
          obtain ⟨s_11, h13, hh⟩ := bind_ex hh
          obtain ⟨h13a, h13c⟩ := sl_some h13
          have h13g := sl_le h13a
          have h13d := sl_map (f := api_Node.pv) h13c
          try simp only [Int.toNat_natCast, Int.reduceToNat, List.map_cons, List.map_nil, diptychlaw18_Cell.pv_eq, api_Attr.pv_eq, api_Node.pv_eq, step_Step.pv_eq, diff_change.pv_eq, maps_Range.pv_eq, pvL] at h13d
          obtain ⟨copy_12, h14, hh⟩ := bind_ex hh
          refine awp_first fun K kk hK => ?_
          simp only [go_sem, h13a.1, h13a.2.1, h13a.2.2, h13d, h13g]
          (repeat refine sd ?_)
          refine step_call2 (node_Copy_ok _ _ h14) (by (try simp only [go_sem, h13a.1, h13a.2.1, h13a.2.2, h13d, h13g]) <;> exact wkl) (by rfl) (by rfl) ?_
          simp only [go_sem, h13a.1, h13a.2.1, h13a.2.2, h13d, h13g]
          (repeat refine sd ?_)
          refine hK _ _ fun nx => ?_; clear hK K; try clear kk
          obtain ⟨l_13, h15, hh⟩ := bind_ex hh
          obtain ⟨h15a, h15c⟩ := app_some h15
          have h15d := app_map (f := step_Step.pv) h15c
          have h15e := app_len h15c
          try simp only [List.length_cons, List.length_nil, Nat.zero_add, Nat.reduceAdd] at h15a h15e
          try simp only [h15e] at h15a
          try simp only [List.map_cons, List.map_nil, List.nil_append, List.append_nil, List.cons_append, List.singleton_append, rune1, diptychlaw18_Cell.pv_eq, api_Attr.pv_eq, api_Node.pv_eq, step_Step.pv_eq, diff_change.pv_eq, maps_Range.pv_eq, pvL] at h15d
          refine awp_first fun K kk hK => ?_
          simp only [go_sem, h15a, h15d, h15e]
          (repeat refine sd ?_)
          refine hK _ _ fun nx => ?_; clear hK K; try clear kk
          refine awp_ret ?_; refine nmx ?_
          obtain hR := Option.some.inj hh
          subst hR
          exact ret_p2
theorem diptychlaw18_shown_ok (R : Bool) (hh : diptychlaw18_shown = some R) : PC Tryd.prog 18 [] (.bool R) := by
  rw [diptychlaw18_shown] at hh
  refine start_diptychlaw18_shown rfl ?_
  refine awp_first fun K kk hK => ?_
  simp only [go_sem]
  refine hK _ _ fun nx => ?_; clear hK K; try clear kk
  refine awp_first fun K kk hK => ?_
  simp only [go_sem]
  refine hK _ _ fun nx => ?_; clear hK K; try clear kk
  refine awp_first fun K kk hK => ?_
  simp only [go_sem]
  refine hK _ _ fun nx => ?_; clear hK K; try clear kk
  obtain ⟨⟨r_1, r_2⟩, h1, hh⟩ := bind_ex hh
  dsimp only at hh
  refine awp_first fun K kk hK => ?_
  simp only [go_sem]
  refine step_call2 (diff_Steps_ok _ _ _ h1) (by (try simp only [go_sem]) <;> exact wkl) (by rfl) (by rfl) ?_
  simp only [go_sem]
  refine hK _ _ fun nx => ?_; clear hK K; try clear kk
  by_cases h2 : (r_2 == (0 : Int)) = true
  · rw [if_pos h2] at hh
    by_cases h3 : ((r_1.length : Int) == (1 : Int)) = true
    · rw [if_pos h3] at hh
      obtain ⟨x_3, h4, hh⟩ := bind_ex hh
      obtain ⟨h4a, h4b, h4c⟩ := rd_some h4
      have h4d := rd_get (f := step_Step.pv) h4c
      have h4f := rd_more (f := step_Step.pv) h4c
      try simp only [Int.toNat_natCast, Int.reduceToNat] at h4d h4f
      by_cases h5 : (x_3.Kind == (114 : Int)) = true
      · rw [if_pos h5] at hh
        by_cases h6 : (x_3.From == (1 : Int)) = true
        · rw [if_pos h6] at hh
          by_cases h7 : (x_3.To == (3 : Int)) = true
          · rw [if_pos h7] at hh
            by_cases h8 : ((x_3.Nodes.length : Int) == (1 : Int)) = true
            · rw [if_pos h8] at hh
              obtain ⟨x_4, h9, hh⟩ := bind_ex hh
              obtain ⟨h9a, h9b, h9c⟩ := rd_some h9
              have h9d := rd_get (f := api_Node.pv) h9c
              have h9f := rd_more (f := api_Node.pv) h9c
              try simp only [Int.toNat_natCast, Int.reduceToNat] at h9d h9f
              refine awp_first fun K kk hK => ?_
              simp only [go_sem, h2, h2, h3, h4a, h4b, h4d, h4f.1, h4f.2, h3, h5, h4a, h4b, h4d, h4f.1, h4f.2, h5, h6, h4a, h4b, h4d, h4f.1, h4f.2, h6, h7, h4a, h4b, h4d, h4f.1, h4f.2, h7, h8, h4a, h4b, h4d, h4f.1, h4f.2, h9a, h9b, h9d, h9f.1, h9f.2, h8]
              (repeat refine sd ?_)
              refine hK _ _ fun nx => ?_; clear hK K; try clear kk
              refine awp_ret ?_; refine nmx ?_
              obtain hR := Option.some.inj hh
              subst hR
              exact ret_p2
            · rw [if_neg h8] at hh
              replace h8 := Bool.eq_false_iff.mpr h8
              refine awp_first fun K kk hK => ?_
              simp only [go_sem, h2, h2, h3, h4a, h4b, h4d, h4f.1, h4f.2, h3, h5, h4a, h4b, h4d, h4f.1, h4f.2, h5, h6, h4a, h4b, h4d, h4f.1, h4f.2, h6, h7, h4a, h4b, h4d, h4f.1, h4f.2, h7, h8, h8]
              (repeat refine sd ?_)
              refine hK _ _ fun nx => ?_; clear hK K; try clear kk
              refine awp_ret ?_; refine nmx ?_
              obtain hR := Option.some.inj hh
              subst hR
              exact ret_p2
          · rw [if_neg h7] at hh
            replace h7 := Bool.eq_false_iff.mpr h7
            refine awp_first fun K kk hK => ?_
            simp only [go_sem, h2, h2, h3, h4a, h4b, h4d, h4f.1, h4f.2, h3, h5, h4a, h4b, h4d, h4f.1, h4f.2, h5, h6, h4a, h4b, h4d, h4f.1, h4f.2, h6, h7, h7]
            (repeat refine sd ?_)
            refine hK _ _ fun nx => ?_; clear hK K; try clear kk
            refine awp_ret ?_; refine nmx ?_
            obtain hR := Option.some.inj hh
            subst hR
            exact ret_p2
        · rw [if_neg h6] at hh
          replace h6 := Bool.eq_false_iff.mpr h6
          refine awp_first fun K kk hK => ?_
          simp only [go_sem, h2, h2, h3, h4a, h4b, h4d, h4f.1, h4f.2, h3, h5, h4a, h4b, h4d, h4f.1, h4f.2, h5, h6, h6]
          (repeat refine sd ?_)
          refine hK _ _ fun nx => ?_; clear hK K; try clear kk
          refine awp_ret ?_; refine nmx ?_
          obtain hR := Option.some.inj hh
          subst hR
          exact ret_p2
      · rw [if_neg h5] at hh
        replace h5 := Bool.eq_false_iff.mpr h5
        refine awp_first fun K kk hK => ?_
        simp only [go_sem, h2, h2, h3, h4a, h4b, h4d, h4f.1, h4f.2, h3, h5, h5]
        (repeat refine sd ?_)
        refine hK _ _ fun nx => ?_; clear hK K; try clear kk
        refine awp_ret ?_; refine nmx ?_
        obtain hR := Option.some.inj hh
        subst hR
        exact ret_p2
    · rw [if_neg h3] at hh
      replace h3 := Bool.eq_false_iff.mpr h3
      refine awp_first fun K kk hK => ?_
      simp only [go_sem, h2, h2, h3, h3]
      (repeat refine sd ?_)
      refine hK _ _ fun nx => ?_; clear hK K; try clear kk
      refine awp_ret ?_; refine nmx ?_
      obtain hR := Option.some.inj hh
      subst hR
      exact ret_p2
  · rw [if_neg h2] at hh
    replace h2 := Bool.eq_false_iff.mpr h2
    refine awp_first fun K kk hK => ?_
    simp only [go_sem, h2, h2]
    (repeat refine sd ?_)
    refine hK _ _ fun nx => ?_; clear hK K; try clear kk
    refine awp_ret ?_; refine nmx ?_
    obtain hR := Option.some.inj hh
    subst hR
    exact ret_p2
theorem diptychlaw18_pick_ok (c_1 : Int) (n_2 : Int) (R : Int) (hh : diptychlaw18_pick c_1 n_2 = some R) : PC Tryd.prog 63 [.int .i64 c_1, .int .i64 n_2] (.int .i64 R) := by
  rw [diptychlaw18_pick] at hh
  refine start_diptychlaw18_pick rfl ?_
  refine awp_first fun K kk hK => ?_
  simp only [go_sem]
  refine hK _ _ fun nx => ?_; clear hK K; try clear kk
  refine awp_seq ?_
  refine awp_first fun K kk hK => ?_
  simp only [go_sem]
  refine hK _ _ fun nx => ?_; clear hK K; try clear kk
  by_cases h1 : (decide (c_1 < (0 : Int))) = true
  · rw [if_pos h1] at hh
    refine awp_true (by first | exact congrArg PV.bool h1 | rfl) ?_
    refine awp_region fun K kk hK => ?_
    simp only [go_sem]
    refine hK _ _ fun nx => ?_; clear hK K; try clear kk
    refine nmx ?_
    obtain ⟨h2, hh⟩ := chk_some hh
    refine awp_first fun K kk hK => ?_
    simp only [go_sem, h2]
    (repeat refine sd ?_)
    refine hK _ _ fun nx => ?_; clear hK K; try clear kk
    refine awp_ret ?_; refine nmx ?_
    obtain hR := Option.some.inj hh
    subst hR
    exact ret_p2
  · rw [if_neg h1] at hh
    replace h1 := Bool.eq_false_iff.mpr h1
    refine awp_false (by first | exact congrArg PV.bool h1 | rfl) ?_
    refine awp_skip ?_; refine nmx ?_
    obtain ⟨h3, hh⟩ := chk_some hh
    refine awp_first fun K kk hK => ?_
    simp only [go_sem, h3]
    (repeat refine sd ?_)
    refine hK _ _ fun nx => ?_; clear hK K; try clear kk
    refine awp_ret ?_; refine nmx ?_
    obtain hR := Option.some.inj hh
    subst hR
    exact ret_p2
theorem diptychref1_sameNames_ok (a_1 : (List Str)) (b_2 : (List Str)) (R : Bool) (hh : diptychref1_sameNames a_1 b_2 = some R) : PC Tryd.prog 111 [.list 1 (a_1.map PV.str), .list 1 (b_2.map PV.str)] (.bool R) := by
  rw [diptychref1_sameNames] at hh
  refine start_diptychref1_sameNames rfl ?_
  refine awp_first fun K kk hK => ?_
  simp only [go_sem]
  refine hK _ _ fun nx => ?_; clear hK K; try clear kk
  refine awp_seq ?_
  refine awp_first fun K kk hK => ?_
  simp only [go_sem]
  refine hK _ _ fun nx => ?_; clear hK K; try clear kk
  by_cases h1 : ((a_1.length : Int) != (b_2.length : Int)) = true
  · rw [if_pos h1] at hh
    refine awp_true (by first | exact congrArg PV.bool h1 | rfl) ?_
    refine awp_first fun K kk hK => ?_
    simp only [go_sem]
    refine hK _ _ fun nx => ?_; clear hK K; try clear kk
    refine awp_ret ?_; refine nmx ?_
    obtain hR := Option.some.inj hh
    subst hR
    exact ret_p2
  · rw [if_neg h1] at hh
    replace h1 := Bool.eq_false_iff.mpr h1
    refine awp_false (by first | exact congrArg PV.bool h1 | rfl) ?_
    refine awp_skip ?_; refine nmx ?_
    refine awp_seq ?_
    refine awp_first fun K kk hK => ?_
    simp only [go_sem]
    refine hK _ _ fun nx => ?_; clear hK K; try clear kk
    obtain ⟨e0, f0, hh⟩ := bind_ex hh
    obtain ⟨hlen0, f0⟩ := chk_some f0
    refine awp_fragE (CutTo (fun s => .inr () = e0 ∧ ∃ (i_11 : Int) (v_12 : Bool) (nx : Nat), s = ⟨[(0, .list 1 (a_1.map PV.str)), (1, .list 1 (b_2.map PV.str)), (5, .int .i64 i_11), (14, .bool v_12)], [], nx⟩))
      (fun i s => False)
      (fun s => ∃ res_10, .inl res_10 = e0 ∧ bodyR Tryd.prog [.tmp 4] (.bool res_10) [] .ret s) ?_ ?_ ?_ ?_
    · refine awp_block ?_
      refine awp_loopJ fun I hI => ?_
      have key : ∀ (suf pre : List Str) (i_5 : Int), a_1 = pre ++ suf → i_5 = (pre.length : Int) → diptychref1_sameNames_l0 b_2 suf i_5 = some e0 → ∀ (nx : Nat), I ⟨[(0, .list 1 (a_1.map PV.str)), (1, .list 1 (b_2.map PV.str)), (5, .int .i64 i_5)], [], nx⟩ := by
        intro suf
        induction suf with
        | nil =>
          intro pre i_5 hsplit hidx hh nx
          rw [diptychref1_sameNames_l0] at hh
          refine hI _ ?_
          have h10 := walk_nil hsplit hidx
          refine awp_seq ?_
          refine awp_first fun K kk hK => ?_
          simp only [go_sem]
          refine hK _ _ fun nx => ?_; clear hK K; try clear kk
          refine awp_false (by first | exact congrArg PV.bool h10 | rfl) ?_
          refine awp_exit ?_; refine nmx ?_
          refine fragN ?_
          refine cut_id ?_
          refine ⟨(Option.some.inj hh), ?_⟩
          first | exact ⟨_, _, _, rfl⟩ | (simp only [diptychlaw18_Cell.pv_eq, api_Attr.pv_eq, api_Node.pv_eq, step_Step.pv_eq, diff_change.pv_eq, maps_Range.pv_eq, pvL, List.map_cons, List.map_nil, List.map_append, rune1]; exact ⟨_, _, _, rfl⟩) | (simp only [diptychlaw18_Cell.pv_eq, api_Attr.pv_eq, api_Node.pv_eq, step_Step.pv_eq, diff_change.pv_eq, maps_Range.pv_eq, pvL, List.map_cons, List.map_nil, List.map_append, rune1, h1, h10]; exact ⟨_, _, _, rfl⟩)
        | cons y_8 suf ih =>
          intro pre i_5 hsplit hidx hh nx
          rw [diptychref1_sameNames_l0] at hh
          refine hI _ ?_
          obtain ⟨hl0a, hl0b, hl0d, hl0w, h10⟩ := walk_cons (f := PV.str) hsplit hidx hlen0
          refine awp_seq ?_
          refine awp_first fun K kk hK => ?_
          simp only [go_sem]
          refine hK _ _ fun nx => ?_; clear hK K; try clear kk
          refine awp_true (by first | exact congrArg PV.bool h10 | rfl) ?_
          refine awp_skip ?_; refine nmx ?_
          refine awp_seq ?_
          refine awp_block ?_
          obtain ⟨x_9, h11, hh⟩ := bind_ex hh
          obtain ⟨h11a, h11b, h11c⟩ := rd_some h11
          have h11d := rd_get (f := PV.str) h11c
          have h11f := rd_more (f := PV.str) h11c
          try simp only [Int.toNat_natCast, Int.reduceToNat] at h11d h11f
          refine awp_first fun K kk hK => ?_
          simp only [go_sem, h11a, h11b, h11d, h11f.1, h11f.2, hl0a, hl0b, hl0d, hl0w]
          (repeat refine sd ?_)
          refine hK _ _ fun nx => ?_; clear hK K; try clear kk
          by_cases h12 : (!(y_8 == x_9)) = true
          · rw [if_pos h12] at hh
            refine awp_true (by first | exact congrArg PV.bool h12 | rfl) ?_
            refine awp_first fun K kk hK => ?_
            simp only [go_sem, hl0a, hl0b, hl0d, hl0w]
            refine hK _ _ fun nx => ?_; clear hK K; try clear kk
            refine awp_ret ?_; refine nmx ?_
            refine fragR ⟨_, (Option.some.inj hh), ?_⟩
            exact ret_p2
          · rw [if_neg h12] at hh
            replace h12 := Bool.eq_false_iff.mpr h12
            refine awp_false (by first | exact congrArg PV.bool h12 | rfl) ?_
            refine awp_skip ?_; refine nmx ?_
            refine awp_region fun K kk hK => ?_
            simp only [go_sem, hl0a, hl0b, hl0d, hl0w]
            refine hK _ _ fun nx => ?_; clear hK K; try clear kk
            refine nmx ?_
            have ih' := ih (pre ++ [y_8]) (i_5 + 1) (by rw [hsplit]; simp) (by simp [hidx]) hh nx
            refine cut_id ?_
            first | exact ih' | (simp only [diptychlaw18_Cell.pv_eq, api_Attr.pv_eq, api_Node.pv_eq, step_Step.pv_eq, diff_change.pv_eq, maps_Range.pv_eq, pvL, List.map_cons, List.map_nil, List.map_append, rune1] at ih' ⊢; exact ih') | (simp only [diptychlaw18_Cell.pv_eq, api_Attr.pv_eq, api_Node.pv_eq, step_Step.pv_eq, diff_change.pv_eq, maps_Range.pv_eq, pvL, List.map_cons, List.map_nil, List.map_append, rune1, h1, h10, h12] at ih' ⊢; exact ih')
      exact key a_1 [] _ rfl rfl f0 _
    · rintro s ⟨t, hless, rfl, i_11, v_12, nx, rfl⟩
      try dsimp only at hh
      refine nmy ?_
      first | (refine cut_less hless ?_; try refine cut_awp ?_) | refine frag_less hless ?_ | refine body_less hless ?_
      refine awp_first fun K kk hK => ?_
      simp only [go_sem]
      refine hK _ _ fun nx => ?_; clear hK K; try clear kk
      refine awp_ret ?_; refine nmx ?_
      obtain hR := Option.some.inj hh
      subst hR
      exact ret_p2
    · intro i s h; exact h.elim
    · rintro s ⟨res_10, rfl, hb⟩
      try dsimp only at hh
      obtain hR := Option.some.inj hh
      subst hR
      refine nmx ?_
      exact hb
theorem diptychref1_Join_ok (l_1 : (List api_Node)) (R : (List api_Node)) (hh : diptychref1_Join l_1 = some R) : PC Tryd.prog 81 [.list 5 (l_1.map api_Node.pv)] (.own 5 (R.map api_Node.pv)) := by
  rw [diptychref1_Join] at hh
  refine start_diptychref1_Join rfl ?_
  refine awp_first fun K kk hK => ?_
  simp only [go_sem]
  refine hK _ _ fun nx => ?_; clear hK K; try clear kk
  refine awp_first fun K kk hK => ?_
  simp only [go_sem]
  refine hK _ _ fun nx => ?_; clear hK K; try clear kk
  refine awp_seq ?_
  refine awp_first fun K kk hK => ?_
  simp only [go_sem]
  refine hK _ _ fun nx => ?_; clear hK K; try clear kk
  obtain ⟨e0, f0, hh⟩ := bind_ex hh
  obtain ⟨hlen0, f0⟩ := chk_some f0
  refine awp_fragE (CutTo (fun s => ∃ out_39, out_39 = e0 ∧ ∃ (i_37 : Int) (v_38 : Bool) (nx : Nat) (g3 : Nat), s = ⟨[(0, .list 5 (l_1.map api_Node.pv)), (3, .row 3 g3 out_39.length), (4, .int .i64 i_37), (10, .bool v_38)], [(3, g3, .row false 5 (out_39.map api_Node.pv))], nx⟩))
    (fun i s => False)
    (fun s => False) ?_ ?_ ?_ ?_
  · refine awp_block ?_
    refine awp_loopJ fun I hI => ?_
    have key : ∀ (suf pre : List api_Node) (i_13 : Int) (out_14 : (List api_Node)), l_1 = pre ++ suf → i_13 = (pre.length : Int) → diptychref1_Join_l0 suf i_13 out_14 = some e0 → ∀ (nx : Nat) (g3 : Nat), I ⟨[(0, .list 5 (l_1.map api_Node.pv)), (3, .row 3 g3 out_14.length), (4, .int .i64 i_13)], [(3, g3, .row false 5 (out_14.map api_Node.pv))], nx⟩ := by
      intro suf
      induction suf with
      | nil =>
        intro pre i_13 out_14 hsplit hidx hh nx g3
        rw [diptychref1_Join_l0] at hh
        refine hI _ ?_
        have h37 := walk_nil hsplit hidx
        refine awp_seq ?_
        refine awp_first fun K kk hK => ?_
        simp only [go_sem]
        refine hK _ _ fun nx => ?_; clear hK K; try clear kk
        refine awp_false (by first | exact congrArg PV.bool h37 | rfl) ?_
        refine awp_exit ?_; refine nmx ?_
        refine fragN ?_
        refine cut_id ?_
        refine ⟨_, (Option.some.inj hh), ?_⟩
        first | exact ⟨_, _, _, _, rfl⟩ | (simp only [diptychlaw18_Cell.pv_eq, api_Attr.pv_eq, api_Node.pv_eq, step_Step.pv_eq, diff_change.pv_eq, maps_Range.pv_eq, pvL, List.map_cons, List.map_nil, List.map_append, rune1]; exact ⟨_, _, _, _, rfl⟩) | (simp only [diptychlaw18_Cell.pv_eq, api_Attr.pv_eq, api_Node.pv_eq, step_Step.pv_eq, diff_change.pv_eq, maps_Range.pv_eq, pvL, List.map_cons, List.map_nil, List.map_append, rune1, h37]; exact ⟨_, _, _, _, rfl⟩)
      | cons y_26 suf ih =>
        intro pre i_13 out_14 hsplit hidx hh nx g3
        rw [diptychref1_Join_l0] at hh
        refine hI _ ?_
        obtain ⟨hl0a, hl0b, hl0d, hl0w, h37⟩ := walk_cons (f := api_Node.pv) hsplit hidx hlen0
        refine awp_seq ?_
        refine awp_first fun K kk hK => ?_
        simp only [go_sem]
        refine hK _ _ fun nx => ?_; clear hK K; try clear kk
        refine awp_true (by first | exact congrArg PV.bool h37 | rfl) ?_
        refine awp_skip ?_; refine nmx ?_
        refine awp_seq ?_
        refine awp_block ?_
        refine awp_first fun K kk hK => ?_
        simp only [go_sem, hl0a, hl0b, hl0d, hl0w]
        refine hK _ _ fun nx => ?_; clear hK K; try clear kk
        refine awp_first fun K kk hK => ?_
        simp only [go_sem, hl0a, hl0b, hl0d, hl0w]
        refine hK _ _ fun nx => ?_; clear hK K; try clear kk
        refine awp_seq ?_
        obtain ⟨e3, f3, hh⟩ := bind_ex hh
        refine awp_frag (fun s => .inr () = e3 ∧ ∃ (v_27 : Bool) (nx : Nat) (g3 : Nat) (g5 : Nat), s = ⟨[(0, .list 5 (l_1.map api_Node.pv)), (3, .row 3 g3 out_14.length), (4, .int .i64 i_13), (5, .box 5 g5 0), (6, .int .i64 (w64 ((out_14.length : Int) - (1 : Int)))), (27, .bool v_27)], [(3, g3, .row false 5 (out_14.map api_Node.pv)), (5, g5, .var 28 [.str y_26.Kind, .str y_26.Text, .list 1 (y_26.Marks.map PV.str), .list 2 (y_26.Attrs.map api_Attr.pv), .list 5 (y_26.Kids.map api_Node.pv)])], nx⟩)
          (fun i s => (i = 1 ∧ .inl () = e3 ∧ ∃ (nx : Nat) (g3 : Nat) (g5 : Nat), s = ⟨[(0, .list 5 (l_1.map api_Node.pv)), (3, .row 3 g3 out_14.length), (4, .int .i64 i_13), (5, .box 5 g5 0), (6, .int .i64 (w64 ((out_14.length : Int) - (1 : Int)))), (27, .bool (y_26.Text == ([] : Str)))], [(3, g3, .row false 5 (out_14.map api_Node.pv)), (5, g5, .var 28 [.str y_26.Kind, .str y_26.Text, .list 1 (y_26.Marks.map PV.str), .list 2 (y_26.Attrs.map api_Attr.pv), .list 5 (y_26.Kids.map api_Node.pv)])], nx⟩))
          (fun s => False) ?_ ?_ ?_ ?_
        · have hh := f3
          by_cases h38 : (y_26.Kind == ([116, 101, 120, 116] : Str)) = true
          · rw [if_pos h38] at hh
            refine awp_first fun K kk hK => ?_
            simp only [go_sem, h38, h38, hl0a, hl0b, hl0d, hl0w]
            (repeat refine sd ?_)
            refine hK _ _ fun nx => ?_; clear hK K; try clear kk
            by_cases h39 : (y_26.Text == ([] : Str)) = true
            · rw [if_pos h39] at hh
              refine awp_true (by first | exact congrArg PV.bool h39 | rfl) ?_
              refine awp_exit ?_; refine nmx ?_
              refine fragE ⟨rfl, (Option.some.inj hh), ?_⟩
              first | exact ⟨_, _, _, rfl⟩ | (simp only [diptychlaw18_Cell.pv_eq, api_Attr.pv_eq, api_Node.pv_eq, step_Step.pv_eq, diff_change.pv_eq, maps_Range.pv_eq, pvL, List.map_cons, List.map_nil, List.map_append, rune1]; exact ⟨_, _, _, rfl⟩) | (simp only [diptychlaw18_Cell.pv_eq, api_Attr.pv_eq, api_Node.pv_eq, step_Step.pv_eq, diff_change.pv_eq, maps_Range.pv_eq, pvL, List.map_cons, List.map_nil, List.map_append, rune1, h37, h38, h39]; exact ⟨_, _, _, rfl⟩)
            · rw [if_neg h39] at hh
              replace h39 := Bool.eq_false_iff.mpr h39
              refine awp_false (by first | exact congrArg PV.bool h39 | rfl) ?_
              refine awp_skip ?_; refine nmx ?_
              refine fragN ?_
              refine cut_id ?_
              refine ⟨(Option.some.inj hh), ?_⟩
              first | exact ⟨_, _, _, _, rfl⟩ | (simp only [diptychlaw18_Cell.pv_eq, api_Attr.pv_eq, api_Node.pv_eq, step_Step.pv_eq, diff_change.pv_eq, maps_Range.pv_eq, pvL, List.map_cons, List.map_nil, List.map_append, rune1]; exact ⟨_, _, _, _, rfl⟩) | (simp only [diptychlaw18_Cell.pv_eq, api_Attr.pv_eq, api_Node.pv_eq, step_Step.pv_eq, diff_change.pv_eq, maps_Range.pv_eq, pvL, List.map_cons, List.map_nil, List.map_append, rune1, h37, h38, h39]; exact ⟨_, _, _, _, rfl⟩)
          · rw [if_neg h38] at hh
            replace h38 := Bool.eq_false_iff.mpr h38
            refine awp_first fun K kk hK => ?_
            simp only [go_sem, h38, h38, hl0a, hl0b, hl0d, hl0w]
            (repeat refine sd ?_)
            refine hK _ _ fun nx => ?_; clear hK K; try clear kk
            refine awp_false rfl ?_
            refine awp_skip ?_; refine nmx ?_
            refine fragN ?_
            refine cut_id ?_
            refine ⟨(Option.some.inj hh), ?_⟩
            first | exact ⟨_, _, _, _, rfl⟩ | (simp only [diptychlaw18_Cell.pv_eq, api_Attr.pv_eq, api_Node.pv_eq, step_Step.pv_eq, diff_change.pv_eq, maps_Range.pv_eq, pvL, List.map_cons, List.map_nil, List.map_append, rune1]; exact ⟨_, _, _, _, rfl⟩) | (simp only [diptychlaw18_Cell.pv_eq, api_Attr.pv_eq, api_Node.pv_eq, step_Step.pv_eq, diff_change.pv_eq, maps_Range.pv_eq, pvL, List.map_cons, List.map_nil, List.map_append, rune1, h37, h38]; exact ⟨_, _, _, _, rfl⟩)
        · rintro s ⟨rfl, v_27, nx, g3, g5, rfl⟩
          try dsimp only at hh
          refine awp_seq ?_
          by_cases h40 : (y_26.Kind == ([116, 101, 120, 116] : Str)) = true
          · rw [if_pos h40] at hh
            by_cases h41 : (decide ((w64 ((out_14.length : Int) - (1 : Int))) ≥ (0 : Int))) = true
            · rw [if_pos h41] at hh
              obtain ⟨x_28, h42, hh⟩ := bind_ex hh
              obtain ⟨h42a, h42b, h42c⟩ := rd_some h42
              have h42d := rd_get (f := api_Node.pv) h42c
              have h42f := rd_more (f := api_Node.pv) h42c
              try simp only [Int.toNat_natCast, Int.reduceToNat] at h42d h42f
              by_cases h43 : (x_28.Kind == ([116, 101, 120, 116] : Str)) = true
              · rw [if_pos h43] at hh
                obtain ⟨samena_29, h44, hh⟩ := bind_ex hh
                refine awp_first fun K kk hK => ?_
                simp only [go_sem, h40, h40, h41, of_decide_eq_true h41, h42a, h42b, h42d, h42f.1, h42f.2, h41, of_decide_eq_true h41, h43, h42a, h42b, h42d, h42f.1, h42f.2, h43, hl0a, hl0b, hl0d, hl0w]
                (repeat refine sd ?_)
                refine step_call2 (diptychref1_sameNames_ok _ _ _ h44) (by (try simp only [go_sem, h40, h40, h41, of_decide_eq_true h41, h42a, h42b, h42d, h42f.1, h42f.2, h41, of_decide_eq_true h41, h43, h42a, h42b, h42d, h42f.1, h42f.2, h43, hl0a, hl0b, hl0d, hl0w]) <;> exact wkl) (by rfl) (by rfl) ?_
                simp only [go_sem, h40, h40, h41, of_decide_eq_true h41, h42a, h42b, h42d, h42f.1, h42f.2, h41, of_decide_eq_true h41, h43, h42a, h42b, h42d, h42f.1, h42f.2, h43, hl0a, hl0b, hl0d, hl0w]
                (repeat refine sd ?_)
                refine hK _ _ fun nx => ?_; clear hK K; try clear kk
                by_cases h45 : (samena_29) = true
                · rw [if_pos h45] at hh
                  refine awp_true (by first | exact congrArg PV.bool h45 | rfl) ?_
                  obtain ⟨h46, hh⟩ := chk_some hh
                  refine awp_first fun K kk hK => ?_
                  simp only [go_sem, h42a, h42b, h42d, h42f.1, h42f.2, h46, hl0a, hl0b, hl0d, hl0w]
                  (repeat refine sd ?_)
                  refine hK _ _ fun nx => ?_; clear hK K; try clear kk
                  obtain ⟨s_30, h47, hh⟩ := bind_ex hh
                  obtain ⟨h47a, h47c⟩ := sl_some h47
                  have h47g := sl_le h47a
                  have h47d := sl_map0 (f := api_Node.pv) h47c
                  try simp only [Int.toNat_natCast, Int.reduceToNat, List.map_cons, List.map_nil, diptychlaw18_Cell.pv_eq, api_Attr.pv_eq, api_Node.pv_eq, step_Step.pv_eq, diff_change.pv_eq, maps_Range.pv_eq, pvL] at h47d
                  obtain ⟨l_31, h48, hh⟩ := bind_ex hh
                  obtain ⟨h48a, h48c⟩ := app_some h48
                  have h48d := app_map (f := api_Node.pv) h48c
                  have h48e := app_len h48c
                  try simp only [List.length_cons, List.length_nil, Nat.zero_add, Nat.reduceAdd] at h48a h48e
                  try simp only [h48e] at h48a
                  try simp only [List.map_cons, List.map_nil, List.nil_append, List.append_nil, List.cons_append, List.singleton_append, rune1, diptychlaw18_Cell.pv_eq, api_Attr.pv_eq, api_Node.pv_eq, step_Step.pv_eq, diff_change.pv_eq, maps_Range.pv_eq, pvL] at h48d
                  obtain ⟨l_32, h49, hh⟩ := bind_ex hh
                  obtain ⟨h49a, h49c⟩ := app_some h49
                  have h49d := app_map (f := api_Node.pv) h49c
                  have h49e := app_len h49c
                  try simp only [List.length_cons, List.length_nil, Nat.zero_add, Nat.reduceAdd] at h49a h49e
                  try simp only [h49e] at h49a
                  try simp only [List.map_cons, List.map_nil, List.nil_append, List.append_nil, List.cons_append, List.singleton_append, rune1, diptychlaw18_Cell.pv_eq, api_Attr.pv_eq, api_Node.pv_eq, step_Step.pv_eq, diff_change.pv_eq, maps_Range.pv_eq, pvL] at h49d
                  refine awp_first fun K kk hK => ?_
                  simp only [go_sem, h47a.1, h47a.2.1, h47a.2.2, h47d, h47g, h48a, h48d, h48e, h49a, h49d, h49e, hl0a, hl0b, hl0d, hl0w]
                  (repeat refine sd ?_)
                  refine hK _ _ fun nx => ?_; clear hK K; try clear kk
                  refine awp_exit ?_; refine nmx ?_
                  refine awp_region fun K kk hK => ?_
                  simp only [go_sem, hl0a, hl0b, hl0d, hl0w]
                  refine hK _ _ fun nx => ?_; clear hK K; try clear kk
                  refine nmx ?_
                  have ih' := ih (pre ++ [y_26]) (i_13 + 1) _ (by rw [hsplit]; simp) (by simp [hidx]) hh nx
                  refine cut_id ?_
                  first | exact ih' _ | (simp only [diptychlaw18_Cell.pv_eq, api_Attr.pv_eq, api_Node.pv_eq, step_Step.pv_eq, diff_change.pv_eq, maps_Range.pv_eq, pvL, List.map_cons, List.map_nil, List.map_append, rune1, h48e, h48d, h49e] at ih' ⊢; exact ih' _) | (simp only [diptychlaw18_Cell.pv_eq, api_Attr.pv_eq, api_Node.pv_eq, step_Step.pv_eq, diff_change.pv_eq, maps_Range.pv_eq, pvL, List.map_cons, List.map_nil, List.map_append, rune1, h48e, h48d, h49e, h37, h40, h41, h43, h45] at ih' ⊢; exact ih' _)
                · rw [if_neg h45] at hh
                  replace h45 := Bool.eq_false_iff.mpr h45
                  refine awp_false (by first | exact congrArg PV.bool h45 | rfl) ?_
                  refine awp_skip ?_; refine nmx ?_
                  obtain ⟨l_33, h50, hh⟩ := bind_ex hh
                  obtain ⟨h50a, h50c⟩ := app_some h50
                  have h50d := app_map (f := api_Node.pv) h50c
                  have h50e := app_len h50c
                  try simp only [List.length_cons, List.length_nil, Nat.zero_add, Nat.reduceAdd] at h50a h50e
                  try simp only [h50e] at h50a
                  try simp only [List.map_cons, List.map_nil, List.nil_append, List.append_nil, List.cons_append, List.singleton_append, rune1, diptychlaw18_Cell.pv_eq, api_Attr.pv_eq, api_Node.pv_eq, step_Step.pv_eq, diff_change.pv_eq, maps_Range.pv_eq, pvL] at h50d
                  refine awp_region fun K kk hK => ?_
                  simp only [go_sem, h50a, h50d, h50e, hl0a, hl0b, hl0d, hl0w]
                  (repeat refine sd ?_)
                  refine hK _ _ fun nx => ?_; clear hK K; try clear kk
                  refine nmx ?_
                  refine awp_region fun K kk hK => ?_
                  simp only [go_sem, hl0a, hl0b, hl0d, hl0w]
                  refine hK _ _ fun nx => ?_; clear hK K; try clear kk
                  refine nmx ?_
                  have ih' := ih (pre ++ [y_26]) (i_13 + 1) _ (by rw [hsplit]; simp) (by simp [hidx]) hh nx
                  refine cut_id ?_
                  first | exact ih' _ | (simp only [diptychlaw18_Cell.pv_eq, api_Attr.pv_eq, api_Node.pv_eq, step_Step.pv_eq, diff_change.pv_eq, maps_Range.pv_eq, pvL, List.map_cons, List.map_nil, List.map_append, rune1, h50e] at ih' ⊢; exact ih' _) | (simp only [diptychlaw18_Cell.pv_eq, api_Attr.pv_eq, api_Node.pv_eq, step_Step.pv_eq, diff_change.pv_eq, maps_Range.pv_eq, pvL, List.map_cons, List.map_nil, List.map_append, rune1, h50e, h37, h40, h41, h43, h45] at ih' ⊢; exact ih' _)
              · rw [if_neg h43] at hh
                replace h43 := Bool.eq_false_iff.mpr h43
                refine awp_first fun K kk hK => ?_
                simp only [go_sem, h40, h40, h41, of_decide_eq_true h41, h42a, h42b, h42d, h42f.1, h42f.2, h41, of_decide_eq_true h41, h43, h43, hl0a, hl0b, hl0d, hl0w]
                (repeat refine sd ?_)
                refine hK _ _ fun nx => ?_; clear hK K; try clear kk
                refine awp_false rfl ?_
                refine awp_skip ?_; refine nmx ?_
                obtain ⟨l_34, h51, hh⟩ := bind_ex hh
                obtain ⟨h51a, h51c⟩ := app_some h51
                have h51d := app_map (f := api_Node.pv) h51c
                have h51e := app_len h51c
                try simp only [List.length_cons, List.length_nil, Nat.zero_add, Nat.reduceAdd] at h51a h51e
                try simp only [h51e] at h51a
                try simp only [List.map_cons, List.map_nil, List.nil_append, List.append_nil, List.cons_append, List.singleton_append, rune1, diptychlaw18_Cell.pv_eq, api_Attr.pv_eq, api_Node.pv_eq, step_Step.pv_eq, diff_change.pv_eq, maps_Range.pv_eq, pvL] at h51d
                refine awp_region fun K kk hK => ?_
                simp only [go_sem, h51a, h51d, h51e, hl0a, hl0b, hl0d, hl0w]
                (repeat refine sd ?_)
                refine hK _ _ fun nx => ?_; clear hK K; try clear kk
                refine nmx ?_
                refine awp_region fun K kk hK => ?_
                simp only [go_sem, hl0a, hl0b, hl0d, hl0w]
                refine hK _ _ fun nx => ?_; clear hK K; try clear kk
                refine nmx ?_
                have ih' := ih (pre ++ [y_26]) (i_13 + 1) _ (by rw [hsplit]; simp) (by simp [hidx]) hh nx
                refine cut_id ?_
                first | exact ih' _ | (simp only [diptychlaw18_Cell.pv_eq, api_Attr.pv_eq, api_Node.pv_eq, step_Step.pv_eq, diff_change.pv_eq, maps_Range.pv_eq, pvL, List.map_cons, List.map_nil, List.map_append, rune1, h51e] at ih' ⊢; exact ih' _) | (simp only [diptychlaw18_Cell.pv_eq, api_Attr.pv_eq, api_Node.pv_eq, step_Step.pv_eq, diff_change.pv_eq, maps_Range.pv_eq, pvL, List.map_cons, List.map_nil, List.map_append, rune1, h51e, h37, h40, h41, h43] at ih' ⊢; exact ih' _)
            · rw [if_neg h41] at hh
              replace h41 := Bool.eq_false_iff.mpr h41
              refine awp_first fun K kk hK => ?_
              simp only [go_sem, h40, h40, h41, of_decide_eq_false h41, h41, of_decide_eq_false h41, hl0a, hl0b, hl0d, hl0w]
              (repeat refine sd ?_)
              refine hK _ _ fun nx => ?_; clear hK K; try clear kk
              refine awp_false rfl ?_
              refine awp_skip ?_; refine nmx ?_
              obtain ⟨l_35, h52, hh⟩ := bind_ex hh
              obtain ⟨h52a, h52c⟩ := app_some h52
              have h52d := app_map (f := api_Node.pv) h52c
              have h52e := app_len h52c
              try simp only [List.length_cons, List.length_nil, Nat.zero_add, Nat.reduceAdd] at h52a h52e
              try simp only [h52e] at h52a
              try simp only [List.map_cons, List.map_nil, List.nil_append, List.append_nil, List.cons_append, List.singleton_append, rune1, diptychlaw18_Cell.pv_eq, api_Attr.pv_eq, api_Node.pv_eq, step_Step.pv_eq, diff_change.pv_eq, maps_Range.pv_eq, pvL] at h52d
              refine awp_region fun K kk hK => ?_
              simp only [go_sem, h52a, h52d, h52e, hl0a, hl0b, hl0d, hl0w]
              (repeat refine sd ?_)
              refine hK _ _ fun nx => ?_; clear hK K; try clear kk
              refine nmx ?_
              refine awp_region fun K kk hK => ?_
              simp only [go_sem, hl0a, hl0b, hl0d, hl0w]
              refine hK _ _ fun nx => ?_; clear hK K; try clear kk
              refine nmx ?_
              have ih' := ih (pre ++ [y_26]) (i_13 + 1) _ (by rw [hsplit]; simp) (by simp [hidx]) hh nx
              refine cut_id ?_
              first | exact ih' _ | (simp only [diptychlaw18_Cell.pv_eq, api_Attr.pv_eq, api_Node.pv_eq, step_Step.pv_eq, diff_change.pv_eq, maps_Range.pv_eq, pvL, List.map_cons, List.map_nil, List.map_append, rune1, h52e] at ih' ⊢; exact ih' _) | (simp only [diptychlaw18_Cell.pv_eq, api_Attr.pv_eq, api_Node.pv_eq, step_Step.pv_eq, diff_change.pv_eq, maps_Range.pv_eq, pvL, List.map_cons, List.map_nil, List.map_append, rune1, h52e, h37, h40, h41] at ih' ⊢; exact ih' _)
          · rw [if_neg h40] at hh
            replace h40 := Bool.eq_false_iff.mpr h40
            refine awp_first fun K kk hK => ?_
            simp only [go_sem, h40, h40, hl0a, hl0b, hl0d, hl0w]
            (repeat refine sd ?_)
            refine hK _ _ fun nx => ?_; clear hK K; try clear kk
            refine awp_false rfl ?_
            refine awp_skip ?_; refine nmx ?_
            obtain ⟨l_36, h53, hh⟩ := bind_ex hh
            obtain ⟨h53a, h53c⟩ := app_some h53
            have h53d := app_map (f := api_Node.pv) h53c
            have h53e := app_len h53c
            try simp only [List.length_cons, List.length_nil, Nat.zero_add, Nat.reduceAdd] at h53a h53e
            try simp only [h53e] at h53a
            try simp only [List.map_cons, List.map_nil, List.nil_append, List.append_nil, List.cons_append, List.singleton_append, rune1, diptychlaw18_Cell.pv_eq, api_Attr.pv_eq, api_Node.pv_eq, step_Step.pv_eq, diff_change.pv_eq, maps_Range.pv_eq, pvL] at h53d
            refine awp_region fun K kk hK => ?_
            simp only [go_sem, h53a, h53d, h53e, hl0a, hl0b, hl0d, hl0w]
            (repeat refine sd ?_)
            refine hK _ _ fun nx => ?_; clear hK K; try clear kk
            refine nmx ?_
            refine awp_region fun K kk hK => ?_
            simp only [go_sem, hl0a, hl0b, hl0d, hl0w]
            refine hK _ _ fun nx => ?_; clear hK K; try clear kk
            refine nmx ?_
            have ih' := ih (pre ++ [y_26]) (i_13 + 1) _ (by rw [hsplit]; simp) (by simp [hidx]) hh nx
            refine cut_id ?_
            first | exact ih' _ | (simp only [diptychlaw18_Cell.pv_eq, api_Attr.pv_eq, api_Node.pv_eq, step_Step.pv_eq, diff_change.pv_eq, maps_Range.pv_eq, pvL, List.map_cons, List.map_nil, List.map_append, rune1, h53e] at ih' ⊢; exact ih' _) | (simp only [diptychlaw18_Cell.pv_eq, api_Attr.pv_eq, api_Node.pv_eq, step_Step.pv_eq, diff_change.pv_eq, maps_Range.pv_eq, pvL, List.map_cons, List.map_nil, List.map_append, rune1, h53e, h37, h40] at ih' ⊢; exact ih' _)
        · intro i s h
          obtain ⟨rfl, rfl, nx, g3, g5, rfl⟩ := h
          try dsimp only at hh
          refine nmx ?_
          refine awp_region fun K kk hK => ?_
          simp only [go_sem, hl0a, hl0b, hl0d, hl0w]
          refine hK _ _ fun nx => ?_; clear hK K; try clear kk
          refine nmx ?_
          have ih' := ih (pre ++ [y_26]) (i_13 + 1) _ (by rw [hsplit]; simp) (by simp [hidx]) hh nx
          refine cut_id ?_
          first | exact ih' _ | (simp only [diptychlaw18_Cell.pv_eq, api_Attr.pv_eq, api_Node.pv_eq, step_Step.pv_eq, diff_change.pv_eq, maps_Range.pv_eq, pvL, List.map_cons, List.map_nil, List.map_append, rune1] at ih' ⊢; exact ih' _) | (simp only [diptychlaw18_Cell.pv_eq, api_Attr.pv_eq, api_Node.pv_eq, step_Step.pv_eq, diff_change.pv_eq, maps_Range.pv_eq, pvL, List.map_cons, List.map_nil, List.map_append, rune1, h37] at ih' ⊢; exact ih' _)
        · intro s h; exact h.elim
    exact key l_1 [] _ _ rfl rfl f0 _ _
  · rintro s ⟨t, hless, out_39, rfl, i_37, v_38, nx, g3, rfl⟩
    try dsimp only at hh
    refine nmy ?_
    first | (refine cut_less hless ?_; try refine cut_awp ?_) | refine frag_less hless ?_ | refine body_less hless ?_
    refine awp_first fun K kk hK => ?_
    simp only [go_sem]
    refine hK _ _ fun nx => ?_; clear hK K; try clear kk
    refine awp_ret ?_; refine nmx ?_
    obtain hR := Option.some.inj hh
    subst hR
    exact ret_own (by rfl) (by rfl) (by rfl) (by simp only [List.length_map, List.length_cons, List.length_nil, Nat.zero_add, Nat.reduceAdd]) (by first | rfl | (simp only [diptychlaw18_Cell.pv_eq, api_Attr.pv_eq, api_Node.pv_eq, step_Step.pv_eq, diff_change.pv_eq, maps_Range.pv_eq, pvL, List.map_cons, List.map_nil, List.map_append, rune1]; done) | (simp only [diptychlaw18_Cell.pv_eq, api_Attr.pv_eq, api_Node.pv_eq, step_Step.pv_eq, diff_change.pv_eq, maps_Range.pv_eq, pvL, List.map_cons, List.map_nil, List.map_append, rune1]; rfl))
  · intro i s h; exact h.elim
  · intro s h; exact h.elim
theorem diptychlaw18_para_ok (x_1 : diptychlaw18_Cell) (texts_2 : (List api_Node)) (R : api_Node) (hh : diptychlaw18_para x_1 texts_2 = some R) : PC Tryd.prog 64 [.agg [.int .i64 x_1.Text, .int .i64 x_1.Marks, .int .i64 x_1.Attrs, .int .i64 x_1.In], .list 5 (texts_2.map api_Node.pv)] (.agg [.str R.Kind, .str R.Text, .list 1 (R.Marks.map PV.str), .list 2 (R.Attrs.map api_Attr.pv), .list 5 (R.Kids.map api_Node.pv)]) := by
  rw [diptychlaw18_para] at hh
  refine start_diptychlaw18_para rfl ?_
  refine awp_first fun K kk hK => ?_
  simp only [go_sem]
  refine hK _ _ fun nx => ?_; clear hK K; try clear kk
  refine awp_first fun K kk hK => ?_
  simp only [go_sem]
  refine hK _ _ fun nx => ?_; clear hK K; try clear kk
  refine awp_first fun K kk hK => ?_
  simp only [go_sem]
  refine hK _ _ fun nx => ?_; clear hK K; try clear kk
  obtain ⟨pick_3, h1, hh⟩ := bind_ex hh
  obtain ⟨x_4, h2, hh⟩ := bind_ex hh
  obtain ⟨h2a, h2b, h2c⟩ := rd_some h2
  have h2d := rd_get (f := PV.str) h2c
  have h2f := rd_more (f := PV.str) h2c
  try simp only [Int.toNat_natCast, Int.reduceToNat] at h2d h2f
  simp only [List.length_cons, List.length_nil, List.map_cons, List.map_nil, Nat.zero_add, Nat.reduceAdd, reduceCtorEq, not_false_eq_true, and_true, diptychlaw18_Cell.pv_eq, api_Attr.pv_eq, api_Node.pv_eq, step_Step.pv_eq, diff_change.pv_eq, maps_Range.pv_eq, pvL] at h2b h2d h2f
  obtain ⟨pick_5, h3, hh⟩ := bind_ex hh
  obtain ⟨x_6, h4, hh⟩ := bind_ex hh
  obtain ⟨h4a, h4b, h4c⟩ := rd_some h4
  have h4d := rd_get (f := PV.str) h4c
  have h4f := rd_more (f := PV.str) h4c
  try simp only [Int.toNat_natCast, Int.reduceToNat] at h4d h4f
  simp only [List.length_cons, List.length_nil, List.map_cons, List.map_nil, Nat.zero_add, Nat.reduceAdd, reduceCtorEq, not_false_eq_true, and_true, diptychlaw18_Cell.pv_eq, api_Attr.pv_eq, api_Node.pv_eq, step_Step.pv_eq, diff_change.pv_eq, maps_Range.pv_eq, pvL] at h4b h4d h4f
  refine awp_first fun K kk hK => ?_
  simp only [go_sem, h2a, h2b, h2d, h4a, h4b, h4d, h2f, h4f]
  (repeat refine sd ?_)
  refine step_call2 (diptychlaw18_pick_ok _ _ _ h1) (by (try simp only [go_sem, h2a, h2b, h2d, h4a, h4b, h4d, h2f, h4f]) <;> exact wkl) (by rfl) (by rfl) ?_
  simp only [go_sem, h2a, h2b, h2d, h4a, h4b, h4d, h2f, h4f]
  (repeat refine sd ?_)
  refine step_call2 (diptychlaw18_pick_ok _ _ _ h3) (by (try simp only [go_sem, h2a, h2b, h2d, h4a, h4b, h4d, h2f, h4f]) <;> exact wkl) (by rfl) (by rfl) ?_
  simp only [go_sem, h2a, h2b, h2d, h4a, h4b, h4d, h2f, h4f]
  (repeat refine sd ?_)
  refine hK _ _ fun nx => ?_; clear hK K; try clear kk
  obtain ⟨join_7, h5, hh⟩ := bind_ex hh
  refine awp_first fun K kk hK => ?_
  simp only [go_sem]
  refine step_call2 (diptychref1_Join_ok _ _ h5).list (by (try simp only [go_sem]) <;> exact wkl) (by rfl) (by rfl) ?_
  simp only [go_sem]
  refine hK _ _ fun nx => ?_; clear hK K; try clear kk
  refine awp_ret ?_; refine nmx ?_
  obtain hR := Option.some.inj hh
  subst hR
  exact ret_p2
theorem diptychref1_Depth_grp : ∀ kr : Nat, (∀ (n_1 : api_Node) (R : Int), diptychref1_Depth_k kr n_1 = some R → PC Tryd.prog 65 [.agg [.str n_1.Kind, .str n_1.Text, .list 1 (n_1.Marks.map PV.str), .list 2 (n_1.Attrs.map api_Attr.pv), .list 5 (n_1.Kids.map api_Node.pv)]] (.int .i64 R)) := by
  intro kr
  induction kr with
  | zero => exact (by intro n_1 R hh; rw [diptychref1_Depth_k] at hh; cases hh)
  | succ kr ih =>
    have ih_diptychref1_Depth := ih
    clear ih
    intro n_1 R hh
    rw [diptychref1_Depth_k] at hh
    refine start_diptychref1_Depth rfl ?_
    refine awp_first fun K kk hK => ?_
    simp only [go_sem]
    refine hK _ _ fun nx => ?_; clear hK K; try clear kk
    refine awp_seq ?_
    refine awp_first fun K kk hK => ?_
    simp only [go_sem]
    refine hK _ _ fun nx => ?_; clear hK K; try clear kk
    by_cases h1 : (n_1.Kind == ([116, 101, 120, 116] : Str)) = true
    · rw [if_pos h1] at hh
      refine awp_true (by first | exact congrArg PV.bool h1 | rfl) ?_
      refine awp_first fun K kk hK => ?_
      simp only [go_sem]
      refine hK _ _ fun nx => ?_; clear hK K; try clear kk
      refine awp_ret ?_; refine nmx ?_
      obtain hR := Option.some.inj hh
      subst hR
      exact ret_p2
    · rw [if_neg h1] at hh
      replace h1 := Bool.eq_false_iff.mpr h1
      refine awp_false (by first | exact congrArg PV.bool h1 | rfl) ?_
      refine awp_skip ?_; refine nmx ?_
      refine awp_first fun K kk hK => ?_
      simp only [go_sem]
      refine hK _ _ fun nx => ?_; clear hK K; try clear kk
      refine awp_seq ?_
      refine awp_first fun K kk hK => ?_
      simp only [go_sem]
      refine hK _ _ fun nx => ?_; clear hK K; try clear kk
      obtain ⟨e0, f0, hh⟩ := bind_ex hh
      obtain ⟨hlen0, f0⟩ := chk_some f0
      refine awp_fragE (CutTo (fun s => ∃ d_10, d_10 = e0 ∧ ∃ (i_11 : Int) (v_12 : Bool) (nx : Nat) (g1 : Nat), s = ⟨[(1, .box 1 g1 0), (3, .int .i64 d_10), (4, .int .i64 i_11), (12, .bool v_12)], [(1, g1, .var 28 [.str n_1.Kind, .str n_1.Text, .list 1 (n_1.Marks.map PV.str), .list 2 (n_1.Attrs.map api_Attr.pv), .list 5 (n_1.Kids.map api_Node.pv)])], nx⟩))
        (fun i s => False)
        (fun s => False) ?_ ?_ ?_ ?_
      · refine awp_block ?_
        refine awp_loopJ fun I hI => ?_
        have key : ∀ (suf pre : List api_Node) (i_5 : Int) (d_4 : Int), n_1.Kids = pre ++ suf → i_5 = (pre.length : Int) → diptychref1_Depth_l0 (diptychref1_Depth_k kr) suf i_5 d_4 = some e0 → ∀ (nx : Nat) (g1 : Nat), I ⟨[(1, .box 1 g1 0), (3, .int .i64 d_4), (4, .int .i64 i_5)], [(1, g1, .var 28 [.str n_1.Kind, .str n_1.Text, .list 1 (n_1.Marks.map PV.str), .list 2 (n_1.Attrs.map api_Attr.pv), .list 5 (n_1.Kids.map api_Node.pv)])], nx⟩ := by
          intro suf
          induction suf with
          | nil =>
            intro pre i_5 d_4 hsplit hidx hh nx g1
            rw [diptychref1_Depth_l0] at hh
            refine hI _ ?_
            have h8 := walk_nil hsplit hidx
            refine awp_seq ?_
            refine awp_first fun K kk hK => ?_
            simp only [go_sem]
            refine hK _ _ fun nx => ?_; clear hK K; try clear kk
            refine awp_false (by first | exact congrArg PV.bool h8 | rfl) ?_
            refine awp_exit ?_; refine nmx ?_
            refine fragN ?_
            refine cut_id ?_
            refine ⟨_, (Option.some.inj hh), ?_⟩
            first | exact ⟨_, _, _, _, rfl⟩ | (simp only [diptychlaw18_Cell.pv_eq, api_Attr.pv_eq, api_Node.pv_eq, step_Step.pv_eq, diff_change.pv_eq, maps_Range.pv_eq, pvL, List.map_cons, List.map_nil, List.map_append, rune1]; exact ⟨_, _, _, _, rfl⟩) | (simp only [diptychlaw18_Cell.pv_eq, api_Attr.pv_eq, api_Node.pv_eq, step_Step.pv_eq, diff_change.pv_eq, maps_Range.pv_eq, pvL, List.map_cons, List.map_nil, List.map_append, rune1, h1, h8]; exact ⟨_, _, _, _, rfl⟩)
          | cons y_8 suf ih =>
            intro pre i_5 d_4 hsplit hidx hh nx g1
            rw [diptychref1_Depth_l0] at hh
            refine hI _ ?_
            obtain ⟨hl0a, hl0b, hl0d, hl0w, h8⟩ := walk_cons (f := api_Node.pv) hsplit hidx hlen0
            refine awp_seq ?_
            refine awp_first fun K kk hK => ?_
            simp only [go_sem]
            refine hK _ _ fun nx => ?_; clear hK K; try clear kk
            refine awp_true (by first | exact congrArg PV.bool h8 | rfl) ?_
            refine awp_skip ?_; refine nmx ?_
            refine awp_seq ?_
            refine awp_block ?_
            obtain ⟨depth_9, h9, hh⟩ := bind_ex hh
            refine awp_region fun K kk hK => ?_
            simp only [go_sem, hl0a, hl0b, hl0d, hl0w]
            refine step_call2 (ih_diptychref1_Depth _ _ h9) (by (try simp only [go_sem, hl0a, hl0b, hl0d, hl0w]) <;> exact wkl) (by rfl) (by rfl) ?_
            simp only [go_sem, hl0a, hl0b, hl0d, hl0w]
            refine hK _ _ fun nx => ?_; clear hK K; try clear kk
            refine nmx ?_
            refine awp_region fun K kk hK => ?_
            simp only [go_sem, hl0a, hl0b, hl0d, hl0w]
            refine hK _ _ fun nx => ?_; clear hK K; try clear kk
            refine nmx ?_
            have ih' := ih (pre ++ [y_8]) (i_5 + 1) _ (by rw [hsplit]; simp) (by simp [hidx]) hh nx
            refine cut_id ?_
            first | exact ih' _ | (simp only [diptychlaw18_Cell.pv_eq, api_Attr.pv_eq, api_Node.pv_eq, step_Step.pv_eq, diff_change.pv_eq, maps_Range.pv_eq, pvL, List.map_cons, List.map_nil, List.map_append, rune1] at ih' ⊢; exact ih' _) | (simp only [diptychlaw18_Cell.pv_eq, api_Attr.pv_eq, api_Node.pv_eq, step_Step.pv_eq, diff_change.pv_eq, maps_Range.pv_eq, pvL, List.map_cons, List.map_nil, List.map_append, rune1, h1, h8] at ih' ⊢; exact ih' _)
        exact key n_1.Kids [] _ _ rfl rfl f0 _ _
      · rintro s ⟨t, hless, d_10, rfl, i_11, v_12, nx, g1, rfl⟩
        try dsimp only at hh
        refine nmy ?_
        first | (refine cut_less hless ?_; try refine cut_awp ?_) | refine frag_less hless ?_ | refine body_less hless ?_
        refine awp_first fun K kk hK => ?_
        simp only [go_sem]
        refine hK _ _ fun nx => ?_; clear hK K; try clear kk
        refine awp_ret ?_; refine nmx ?_
        obtain hR := Option.some.inj hh
        subst hR
        exact ret_p2
      · intro i s h; exact h.elim
      · intro s h; exact h.elim
theorem diptychref1_Depth_ok (n_1 : api_Node) (R : Int) (hh : diptychref1_Depth n_1 = some R) : PC Tryd.prog 65 [.agg [.str n_1.Kind, .str n_1.Text, .list 1 (n_1.Marks.map PV.str), .list 2 (n_1.Attrs.map api_Attr.pv), .list 5 (n_1.Kids.map api_Node.pv)]] (.int .i64 R) := by
  rw [diptychref1_Depth] at hh
  obtain ⟨kr, hh⟩ := lim_some hh
  exact (diptychref1_Depth_grp kr) _ _ hh

end Go.Proofs.YtpjdafhmneiohaaDoor
