/- What the functions answer, the program answers (6). -/
import Derived.Test.YtclohbgnaopjfaaGreatDoorAgC
import Derived.Test.YtclohbgnaopjfaaGreatDoorAgF
import Derived.Test.YtclohbgnaopjfaaGreatDoorAgK2
import Derived.Test.YtclohbgnaopjfaaGreatDoorAgK4
import Derived.Test.YtclohbgnaopjfaaGreatDoorAgK5
namespace Go.Proofs.YtclohbgnaopjfaaGreatDoor
set_option linter.unusedSimpArgs false
set_option linter.unusedVariables false
open Go
set_option maxRecDepth 100000

theorem diptychref1_Depth_grp : ∀ kr : Nat, (∀ (n_1 : api_Node) (R : Int), diptychref1_Depth_k kr n_1 = some R → PC Tryz.prog 33 [.agg [.str n_1.Kind, .str n_1.Text, .list 1 (n_1.Marks.map PV.str), .list 2 (n_1.Attrs.map api_Attr.pv), .list 5 (n_1.Kids.map api_Node.pv)]] (.int .i64 R)) := by
  intro kr
  induction kr with
  | zero => exact (by intro n_1 R hh; rw [diptychref1_Depth_k] at hh; cases hh)
  | succ kr ih =>
    have ih_diptychref1_Depth := ih
    clear ih
    intro n_1 R hh
    rw [diptychref1_Depth_k] at hh
    refine start_diptychref1_Depth rfl ?_
    refine awp_first fun K kk hK => ?_
    simp only [go_sem]
    refine hK _ _ fun nx => ?_; clear hK K; try clear kk
    refine awp_seq ?_
    refine awp_first fun K kk hK => ?_
    simp only [go_sem]
    refine hK _ _ fun nx => ?_; clear hK K; try clear kk
    by_cases h1 : (n_1.Kind == ([116, 101, 120, 116] : Str)) = true
    · rw [if_pos h1] at hh
      refine awp_true (by first | exact congrArg PV.bool h1 | rfl) ?_
      refine awp_first fun K kk hK => ?_
      simp only [go_sem]
      refine hK _ _ fun nx => ?_; clear hK K; try clear kk
      refine awp_ret ?_; refine nmx ?_
      obtain hR := Option.some.inj hh
      subst hR
      exact ret_p2
    · rw [if_neg h1] at hh
      replace h1 := Bool.eq_false_iff.mpr h1
      refine awp_false (by first | exact congrArg PV.bool h1 | rfl) ?_
      refine awp_skip ?_; refine nmx ?_
      refine awp_first fun K kk hK => ?_
      simp only [go_sem]
      refine hK _ _ fun nx => ?_; clear hK K; try clear kk
      refine awp_seq ?_
      refine awp_first fun K kk hK => ?_
      simp only [go_sem]
      refine hK _ _ fun nx => ?_; clear hK K; try clear kk
      obtain ⟨e0, f0, hh⟩ := bind_ex hh
      obtain ⟨hlen0, f0⟩ := chk_some f0
      refine awp_fragE (CutTo (fun s => ∃ d_10, d_10 = e0 ∧ ∃ (i_11 : Int) (v_12 : Bool) (nx : Nat) (g1 : Nat), s = ⟨[(1, .box 1 g1 0), (3, .int .i64 d_10), (4, .int .i64 i_11), (12, .bool v_12)], [(1, g1, .var 28 [.str n_1.Kind, .str n_1.Text, .list 1 (n_1.Marks.map PV.str), .list 2 (n_1.Attrs.map api_Attr.pv), .list 5 (n_1.Kids.map api_Node.pv)])], nx⟩))
        (fun i s => False)
        (fun s => False) ?_ ?_ ?_ ?_
      · refine awp_block ?_
        refine awp_loopJ fun I hI => ?_
        have key : ∀ (suf pre : List api_Node) (i_5 : Int) (d_4 : Int), n_1.Kids = pre ++ suf → i_5 = (pre.length : Int) → diptychref1_Depth_l0 (diptychref1_Depth_k kr) suf i_5 d_4 = some e0 → ∀ (nx : Nat) (g1 : Nat), I ⟨[(1, .box 1 g1 0), (3, .int .i64 d_4), (4, .int .i64 i_5)], [(1, g1, .var 28 [.str n_1.Kind, .str n_1.Text, .list 1 (n_1.Marks.map PV.str), .list 2 (n_1.Attrs.map api_Attr.pv), .list 5 (n_1.Kids.map api_Node.pv)])], nx⟩ := by
          intro suf
          induction suf with
          | nil =>
            intro pre i_5 d_4 hsplit hidx hh nx g1
            rw [diptychref1_Depth_l0] at hh
            refine hI _ ?_
            have h8 := walk_nil hsplit hidx
            refine awp_seq ?_
            refine awp_first fun K kk hK => ?_
            simp only [go_sem]
            refine hK _ _ fun nx => ?_; clear hK K; try clear kk
            refine awp_false (by first | exact congrArg PV.bool h8 | rfl) ?_
            refine awp_exit ?_; refine nmx ?_
            refine fragN ?_
            refine cut_id ?_
            refine ⟨_, (Option.some.inj hh), ?_⟩
            first | exact ⟨_, _, _, _, rfl⟩ | (simp only [api_Attr.pv_eq, api_Node.pv_eq, step_Step.pv_eq, diptychref11_Step.pv_eq, pvL, List.map_cons, List.map_nil, List.map_append, rune1]; exact ⟨_, _, _, _, rfl⟩) | (simp only [api_Attr.pv_eq, api_Node.pv_eq, step_Step.pv_eq, diptychref11_Step.pv_eq, pvL, List.map_cons, List.map_nil, List.map_append, rune1, h1, h8]; exact ⟨_, _, _, _, rfl⟩)
          | cons y_8 suf ih =>
            intro pre i_5 d_4 hsplit hidx hh nx g1
            rw [diptychref1_Depth_l0] at hh
            refine hI _ ?_
            obtain ⟨hl0a, hl0b, hl0d, hl0w, h8⟩ := walk_cons (f := api_Node.pv) hsplit hidx hlen0
            refine awp_seq ?_
            refine awp_first fun K kk hK => ?_
            simp only [go_sem]
            refine hK _ _ fun nx => ?_; clear hK K; try clear kk
            refine awp_true (by first | exact congrArg PV.bool h8 | rfl) ?_
            refine awp_skip ?_; refine nmx ?_
            refine awp_seq ?_
            refine awp_block ?_
            obtain ⟨depth_9, h9, hh⟩ := bind_ex hh
            refine awp_region fun K kk hK => ?_
            simp only [go_sem, hl0a, hl0b, hl0d, hl0w]
            refine step_call2 (ih_diptychref1_Depth _ _ h9) (by (try simp only [go_sem, hl0a, hl0b, hl0d, hl0w]) <;> exact wkl) (by rfl) (by rfl) ?_
            simp only [go_sem, hl0a, hl0b, hl0d, hl0w]
            refine hK _ _ fun nx => ?_; clear hK K; try clear kk
            refine nmx ?_
            refine awp_region fun K kk hK => ?_
            simp only [go_sem, hl0a, hl0b, hl0d, hl0w]
            refine hK _ _ fun nx => ?_; clear hK K; try clear kk
            refine nmx ?_
            have ih' := ih (pre ++ [y_8]) (i_5 + 1) _ (by rw [hsplit]; simp) (by simp [hidx]) hh nx
            refine cut_id ?_
            first | exact ih' _ | (simp only [api_Attr.pv_eq, api_Node.pv_eq, step_Step.pv_eq, diptychref11_Step.pv_eq, pvL, List.map_cons, List.map_nil, List.map_append, rune1] at ih' ⊢; exact ih' _) | (simp only [api_Attr.pv_eq, api_Node.pv_eq, step_Step.pv_eq, diptychref11_Step.pv_eq, pvL, List.map_cons, List.map_nil, List.map_append, rune1, h1, h8] at ih' ⊢; exact ih' _)
        exact key n_1.Kids [] _ _ rfl rfl f0 _ _
      · rintro s ⟨t, hless, d_10, rfl, i_11, v_12, nx, g1, rfl⟩
        try dsimp only at hh
        refine nmy ?_
        first | (refine cut_less hless ?_; try refine cut_awp ?_) | refine frag_less hless ?_ | refine body_less hless ?_
        refine awp_first fun K kk hK => ?_
        simp only [go_sem]
        refine hK _ _ fun nx => ?_; clear hK K; try clear kk
        refine awp_ret ?_; refine nmx ?_
        obtain hR := Option.some.inj hh
        subst hR
        exact ret_p2
      · intro i s h; exact h.elim
      · intro s h; exact h.elim
theorem diptychref1_Depth_ok (n_1 : api_Node) (R : Int) (hh : diptychref1_Depth n_1 = some R) : PC Tryz.prog 33 [.agg [.str n_1.Kind, .str n_1.Text, .list 1 (n_1.Marks.map PV.str), .list 2 (n_1.Attrs.map api_Attr.pv), .list 5 (n_1.Kids.map api_Node.pv)]] (.int .i64 R) := by
  rw [diptychref1_Depth] at hh
  obtain ⟨kr, hh⟩ := lim_some hh
  exact (diptychref1_Depth_grp kr) _ _ hh
theorem diptychref1_Total_grp : ∀ kr : Nat, (∀ (l_1 : (List api_Node)) (R : Int), diptychref1_Total_k kr l_1 = some R → PC Tryz.prog 50 [.list 5 (l_1.map api_Node.pv)] (.int .i64 R)) ∧
    (∀ (n_1 : api_Node) (R : Int), diptychref1_Size_k kr n_1 = some R → PC Tryz.prog 82 [.agg [.str n_1.Kind, .str n_1.Text, .list 1 (n_1.Marks.map PV.str), .list 2 (n_1.Attrs.map api_Attr.pv), .list 5 (n_1.Kids.map api_Node.pv)]] (.int .i64 R)) := by
  intro kr
  induction kr with
  | zero => exact ⟨(by intro l_1 R hh; rw [diptychref1_Total_k] at hh; cases hh), (by intro n_1 R hh; rw [diptychref1_Size_k] at hh; cases hh)⟩
  | succ kr ih =>
    obtain ⟨ih_diptychref1_Total, ih_diptychref1_Size⟩ := ih
    refine ⟨?_, ?_⟩
    · intro l_1 R hh
      rw [diptychref1_Total_k] at hh
      refine start_diptychref1_Total rfl ?_
      refine awp_first fun K kk hK => ?_
      simp only [go_sem]
      refine hK _ _ fun nx => ?_; clear hK K; try clear kk
      refine awp_first fun K kk hK => ?_
      simp only [go_sem]
      refine hK _ _ fun nx => ?_; clear hK K; try clear kk
      refine awp_seq ?_
      refine awp_first fun K kk hK => ?_
      simp only [go_sem]
      refine hK _ _ fun nx => ?_; clear hK K; try clear kk
      obtain ⟨e0, f0, hh⟩ := bind_ex hh
      obtain ⟨hlen0, f0⟩ := chk_some f0
      refine awp_fragE (CutTo (fun s => ∃ many_10, many_10 = e0 ∧ ∃ (i_11 : Int) (v_12 : Bool) (nx : Nat), s = ⟨[(0, .list 5 (l_1.map api_Node.pv)), (3, .int .i64 many_10), (4, .int .i64 i_11), (8, .bool v_12)], [], nx⟩))
        (fun i s => False)
        (fun s => False) ?_ ?_ ?_ ?_
      · refine awp_block ?_
        refine awp_loopJ fun I hI => ?_
        have key : ∀ (suf pre : List api_Node) (i_5 : Int) (many_4 : Int), l_1 = pre ++ suf → i_5 = (pre.length : Int) → diptychref1_Total_l0 (diptychref1_Size_k kr) suf i_5 many_4 = some e0 → ∀ (nx : Nat), I ⟨[(0, .list 5 (l_1.map api_Node.pv)), (3, .int .i64 many_4), (4, .int .i64 i_5)], [], nx⟩ := by
          intro suf
          induction suf with
          | nil =>
            intro pre i_5 many_4 hsplit hidx hh nx
            rw [diptychref1_Total_l0] at hh
            refine hI _ ?_
            have h7 := walk_nil hsplit hidx
            refine awp_seq ?_
            refine awp_first fun K kk hK => ?_
            simp only [go_sem]
            refine hK _ _ fun nx => ?_; clear hK K; try clear kk
            refine awp_false (by first | exact congrArg PV.bool h7 | rfl) ?_
            refine awp_exit ?_; refine nmx ?_
            refine fragN ?_
            refine cut_id ?_
            refine ⟨_, (Option.some.inj hh), ?_⟩
            first | exact ⟨_, _, _, rfl⟩ | (simp only [api_Attr.pv_eq, api_Node.pv_eq, step_Step.pv_eq, diptychref11_Step.pv_eq, pvL, List.map_cons, List.map_nil, List.map_append, rune1]; exact ⟨_, _, _, rfl⟩) | (simp only [api_Attr.pv_eq, api_Node.pv_eq, step_Step.pv_eq, diptychref11_Step.pv_eq, pvL, List.map_cons, List.map_nil, List.map_append, rune1, h7]; exact ⟨_, _, _, rfl⟩)
          | cons y_8 suf ih =>
            intro pre i_5 many_4 hsplit hidx hh nx
            rw [diptychref1_Total_l0] at hh
            refine hI _ ?_
            obtain ⟨hl0a, hl0b, hl0d, hl0w, h7⟩ := walk_cons (f := api_Node.pv) hsplit hidx hlen0
            refine awp_seq ?_
            refine awp_first fun K kk hK => ?_
            simp only [go_sem]
            refine hK _ _ fun nx => ?_; clear hK K; try clear kk
            refine awp_true (by first | exact congrArg PV.bool h7 | rfl) ?_
            refine awp_skip ?_; refine nmx ?_
            refine awp_seq ?_
            refine awp_block ?_
            obtain ⟨size_9, h8, hh⟩ := bind_ex hh
            refine awp_region fun K kk hK => ?_
            simp only [go_sem, hl0a, hl0b, hl0d, hl0w]
            refine step_call2 (ih_diptychref1_Size _ _ h8) (by (try simp only [go_sem, hl0a, hl0b, hl0d, hl0w]) <;> exact wkl) (by rfl) (by rfl) ?_
            simp only [go_sem, hl0a, hl0b, hl0d, hl0w]
            refine hK _ _ fun nx => ?_; clear hK K; try clear kk
            refine nmx ?_
            refine awp_region fun K kk hK => ?_
            simp only [go_sem, hl0a, hl0b, hl0d, hl0w]
            refine hK _ _ fun nx => ?_; clear hK K; try clear kk
            refine nmx ?_
            have ih' := ih (pre ++ [y_8]) (i_5 + 1) _ (by rw [hsplit]; simp) (by simp [hidx]) hh nx
            refine cut_id ?_
            first | exact ih' | (simp only [api_Attr.pv_eq, api_Node.pv_eq, step_Step.pv_eq, diptychref11_Step.pv_eq, pvL, List.map_cons, List.map_nil, List.map_append, rune1] at ih' ⊢; exact ih') | (simp only [api_Attr.pv_eq, api_Node.pv_eq, step_Step.pv_eq, diptychref11_Step.pv_eq, pvL, List.map_cons, List.map_nil, List.map_append, rune1, h7] at ih' ⊢; exact ih')
        exact key l_1 [] _ _ rfl rfl f0 _
      · rintro s ⟨t, hless, many_10, rfl, i_11, v_12, nx, rfl⟩
        try dsimp only at hh
        refine nmy ?_
        first | (refine cut_less hless ?_; try refine cut_awp ?_) | refine frag_less hless ?_ | refine body_less hless ?_
        refine awp_first fun K kk hK => ?_
        simp only [go_sem]
        refine hK _ _ fun nx => ?_; clear hK K; try clear kk
        refine awp_ret ?_; refine nmx ?_
        obtain hR := Option.some.inj hh
        subst hR
        exact ret_p2
      · intro i s h; exact h.elim
      · intro s h; exact h.elim
    · intro n_1 R hh
      rw [diptychref1_Size_k] at hh
      refine start_diptychref1_Size rfl ?_
      refine awp_first fun K kk hK => ?_
      simp only [go_sem]
      refine hK _ _ fun nx => ?_; clear hK K; try clear kk
      refine awp_seq ?_
      refine awp_first fun K kk hK => ?_
      simp only [go_sem]
      refine hK _ _ fun nx => ?_; clear hK K; try clear kk
      by_cases h1 : (n_1.Kind == ([116, 101, 120, 116] : Str)) = true
      · rw [if_pos h1] at hh
        refine awp_true (by first | exact congrArg PV.bool h1 | rfl) ?_
        obtain ⟨⟨r_2, r_3⟩, h2, hh⟩ := bind_ex hh
        dsimp only at hh
        refine awp_first fun K kk hK => ?_
        simp only [go_sem]
        refine step_call2 (diptychref1_runes_ok _ _ h2) (by (try simp only [go_sem]) <;> exact wkl) (by rfl) (by rfl) ?_
        simp only [go_sem]
        refine hK _ _ fun nx => ?_; clear hK K; try clear kk
        refine awp_first fun K kk hK => ?_
        simp only [go_sem]
        refine hK _ _ fun nx => ?_; clear hK K; try clear kk
        refine awp_ret ?_; refine nmx ?_
        obtain hR := Option.some.inj hh
        subst hR
        exact ret_p2
      · rw [if_neg h1] at hh
        replace h1 := Bool.eq_false_iff.mpr h1
        refine awp_false (by first | exact congrArg PV.bool h1 | rfl) ?_
        refine awp_skip ?_; refine nmx ?_
        obtain ⟨total_4, h3, hh⟩ := bind_ex hh
        refine awp_first fun K kk hK => ?_
        simp only [go_sem]
        refine step_call2 (ih_diptychref1_Total _ _ h3) (by (try simp only [go_sem]) <;> exact wkl) (by rfl) (by rfl) ?_
        simp only [go_sem]
        refine hK _ _ fun nx => ?_; clear hK K; try clear kk
        refine awp_ret ?_; refine nmx ?_
        obtain hR := Option.some.inj hh
        subst hR
        exact ret_p2
theorem diptychref1_Total_ok (l_1 : (List api_Node)) (R : Int) (hh : diptychref1_Total l_1 = some R) : PC Tryz.prog 50 [.list 5 (l_1.map api_Node.pv)] (.int .i64 R) := by
  rw [diptychref1_Total] at hh
  obtain ⟨kr, hh⟩ := lim_some hh
  exact (diptychref1_Total_grp kr).1 _ _ hh
theorem diptychref1_Size_ok (n_1 : api_Node) (R : Int) (hh : diptychref1_Size n_1 = some R) : PC Tryz.prog 82 [.agg [.str n_1.Kind, .str n_1.Text, .list 1 (n_1.Marks.map PV.str), .list 2 (n_1.Attrs.map api_Attr.pv), .list 5 (n_1.Kids.map api_Node.pv)]] (.int .i64 R) := by
  rw [diptychref1_Size] at hh
  obtain ⟨kr, hh⟩ := lim_some hh
  exact (diptychref1_Total_grp kr).2 _ _ hh
theorem diptychref1_Check_ok (n_1 : api_Node) (R : Int) (hh : diptychref1_Check n_1 = some R) : PC Tryz.prog 42 [.agg [.str n_1.Kind, .str n_1.Text, .list 1 (n_1.Marks.map PV.str), .list 2 (n_1.Attrs.map api_Attr.pv), .list 5 (n_1.Kids.map api_Node.pv)]] (.int .i64 R) := by
  rw [diptychref1_Check] at hh
  refine start_diptychref1_Check rfl ?_
  refine awp_first fun K kk hK => ?_
  simp only [go_sem]
  refine hK _ _ fun nx => ?_; clear hK K; try clear kk
  refine awp_seq ?_
  obtain ⟨formed_2, h1, hh⟩ := bind_ex hh
  refine awp_first fun K kk hK => ?_
  simp only [go_sem]
  refine step_call2 (diptychref1_Formed_ok _ _ h1) (by (try simp only [go_sem]) <;> exact wkl) (by rfl) (by rfl) ?_
  simp only [go_sem]
  refine hK _ _ fun nx => ?_; clear hK K; try clear kk
  by_cases h2 : (!formed_2) = true
  · rw [if_pos h2] at hh
    refine awp_true (by first | exact congrArg PV.bool h2 | rfl) ?_
    refine awp_first fun K kk hK => ?_
    simp only [go_sem]
    refine hK _ _ fun nx => ?_; clear hK K; try clear kk
    refine awp_ret ?_; refine nmx ?_
    obtain hR := Option.some.inj hh
    subst hR
    exact ret_p2
  · rw [if_neg h2] at hh
    replace h2 := Bool.eq_false_iff.mpr h2
    refine awp_false (by first | exact congrArg PV.bool h2 | rfl) ?_
    refine awp_skip ?_; refine nmx ?_
    refine awp_seq ?_
    obtain ⟨depth_3, h3, hh⟩ := bind_ex hh
    refine awp_first fun K kk hK => ?_
    simp only [go_sem]
    refine step_call2 (diptychref1_Depth_ok _ _ h3) (by (try simp only [go_sem]) <;> exact wkl) (by rfl) (by rfl) ?_
    simp only [go_sem]
    refine hK _ _ fun nx => ?_; clear hK K; try clear kk
    by_cases h4 : (decide (depth_3 > (40 : Int))) = true
    · rw [if_pos h4] at hh
      refine awp_true (by first | exact congrArg PV.bool h4 | rfl) ?_
      refine awp_first fun K kk hK => ?_
      simp only [go_sem]
      refine hK _ _ fun nx => ?_; clear hK K; try clear kk
      refine awp_ret ?_; refine nmx ?_
      obtain hR := Option.some.inj hh
      subst hR
      exact ret_p2
    · rw [if_neg h4] at hh
      replace h4 := Bool.eq_false_iff.mpr h4
      refine awp_false (by first | exact congrArg PV.bool h4 | rfl) ?_
      refine awp_skip ?_; refine nmx ?_
      refine awp_seq ?_
      obtain ⟨size_4, h5, hh⟩ := bind_ex hh
      refine awp_first fun K kk hK => ?_
      simp only [go_sem]
      refine step_call2 (diptychref1_Size_ok _ _ h5) (by (try simp only [go_sem]) <;> exact wkl) (by rfl) (by rfl) ?_
      simp only [go_sem]
      refine hK _ _ fun nx => ?_; clear hK K; try clear kk
      by_cases h6 : (decide (size_4 > (4000 : Int))) = true
      · rw [if_pos h6] at hh
        refine awp_true (by first | exact congrArg PV.bool h6 | rfl) ?_
        refine awp_first fun K kk hK => ?_
        simp only [go_sem]
        refine hK _ _ fun nx => ?_; clear hK K; try clear kk
        refine awp_ret ?_; refine nmx ?_
        obtain hR := Option.some.inj hh
        subst hR
        exact ret_p2
      · rw [if_neg h6] at hh
        replace h6 := Bool.eq_false_iff.mpr h6
        refine awp_false (by first | exact congrArg PV.bool h6 | rfl) ?_
        refine awp_skip ?_; refine nmx ?_
        refine awp_first fun K kk hK => ?_
        simp only [go_sem]
        refine hK _ _ fun nx => ?_; clear hK K; try clear kk
        refine awp_ret ?_; refine nmx ?_
        obtain hR := Option.some.inj hh
        subst hR
        exact ret_p2
theorem diptychref2_PrintAll_ok (l_1 : (List api_Node)) (R : (Str × Int)) (hh : diptychref2_PrintAll l_1 = some R) : PC Tryz.prog 64 [.list 5 (l_1.map api_Node.pv)] (.tup [.str R.1, .int .i64 R.2]) := by
  rw [diptychref2_PrintAll] at hh
  refine start_diptychref2_PrintAll rfl ?_
  refine awp_first fun K kk hK => ?_
  simp only [go_sem]
  refine hK _ _ fun nx => ?_; clear hK K; try clear kk
  obtain ⟨check_2, h1, hh⟩ := bind_ex hh
  refine awp_first fun K kk hK => ?_
  simp only [go_sem]
  refine step_call2 (diptychref1_Check_ok _ _ h1) (by (try simp only [go_sem]) <;> exact wkl) (by rfl) (by rfl) ?_
  simp only [go_sem]
  refine hK _ _ fun nx => ?_; clear hK K; try clear kk
  refine awp_seq ?_
  refine awp_first fun K kk hK => ?_
  simp only [go_sem]
  refine hK _ _ fun nx => ?_; clear hK K; try clear kk
  by_cases h2 : (check_2 != (0 : Int)) = true
  · rw [if_pos h2] at hh
    refine awp_true (by first | exact congrArg PV.bool h2 | rfl) ?_
    refine awp_first fun K kk hK => ?_
    simp only [go_sem]
    refine hK _ _ fun nx => ?_; clear hK K; try clear kk
    refine awp_ret ?_; refine nmx ?_
    obtain hR := Option.some.inj hh
    subst hR
    exact ret_p2
  · rw [if_neg h2] at hh
    replace h2 := Bool.eq_false_iff.mpr h2
    refine awp_false (by first | exact congrArg PV.bool h2 | rfl) ?_
    refine awp_skip ?_; refine nmx ?_
    obtain ⟨writea_3, h3, hh⟩ := bind_ex hh
    refine awp_first fun K kk hK => ?_
    simp only [go_sem]
    refine step_call2 (diptychref2_WriteAll_ok _ _ h3) (by (try simp only [go_sem]) <;> exact wkl) (by rfl) (by rfl) ?_
    simp only [go_sem]
    refine hK _ _ fun nx => ?_; clear hK K; try clear kk
    refine awp_ret ?_; refine nmx ?_
    obtain hR := Option.some.inj hh
    subst hR
    exact ret_p2
theorem diptychref12_Decimal_grp : ∀ kr : Nat, (∀ (n_1 : Int) (R : Str), diptychref12_Decimal_k kr n_1 = some R → PC Tryz.prog 104 [.int .i64 n_1] (.str R)) := by
  intro kr
  induction kr with
  | zero => exact (by intro n_1 R hh; rw [diptychref12_Decimal_k] at hh; cases hh)
  | succ kr ih =>
    have ih_diptychref12_Decimal := ih
    clear ih
    intro n_1 R hh
    rw [diptychref12_Decimal_k] at hh
    refine start_diptychref12_Decimal rfl ?_
    refine awp_first fun K kk hK => ?_
    simp only [go_sem]
    refine hK _ _ fun nx => ?_; clear hK K; try clear kk
    refine awp_seq ?_
    refine awp_first fun K kk hK => ?_
    simp only [go_sem]
    refine hK _ _ fun nx => ?_; clear hK K; try clear kk
    by_cases h1 : (decide (n_1 < (0 : Int))) = true
    · rw [if_pos h1] at hh
      refine awp_true (by first | exact congrArg PV.bool h1 | rfl) ?_
      obtain ⟨decima_2, h2, hh⟩ := bind_ex hh
      obtain ⟨h3, hh⟩ := chk_some hh
      refine awp_first fun K kk hK => ?_
      simp only [go_sem, h3]
      (repeat refine sd ?_)
      refine step_call2 (ih_diptychref12_Decimal _ _ h2) (by (try simp only [go_sem, h3]) <;> exact wkl) (by rfl) (by rfl) ?_
      simp only [go_sem, h3]
      (repeat refine sd ?_)
      refine hK _ _ fun nx => ?_; clear hK K; try clear kk
      refine awp_ret ?_; refine nmx ?_
      obtain hR := Option.some.inj hh
      subst hR
      exact ret_p2
    · rw [if_neg h1] at hh
      replace h1 := Bool.eq_false_iff.mpr h1
      refine awp_false (by first | exact congrArg PV.bool h1 | rfl) ?_
      refine awp_skip ?_; refine nmx ?_
      refine awp_first fun K kk hK => ?_
      simp only [go_sem]
      refine hK _ _ fun nx => ?_; clear hK K; try clear kk
      refine awp_seq ?_
      obtain ⟨e0, f0, hh⟩ := bind_ex hh
      refine awp_frag (fun s => ∃ s_10, s_10 = e0 ∧ ∃ (n_9 : Int) (v_11 : Bool) (nx : Nat), s = ⟨[(0, .int .i64 n_9), (3, .str s_10), (15, .bool v_11)], [], nx⟩)
        (fun i s => False)
        (fun s => False) ?_ ?_ ?_ ?_
      · refine awp_block ?_
        refine awp_loopJ fun I hI => ?_
        obtain ⟨k, f0⟩ := lim_some f0
        have key : ∀ (k : Nat) (n_5 : Int) (s_6 : Str), diptychref12_Decimal_l0 k n_5 s_6 = some e0 → ∀ (nx : Nat), I ⟨[(0, .int .i64 n_5), (3, .str s_6)], [], nx⟩ := by
          intro k
          induction k with
          | zero => intro n_5 s_6 hh; rw [diptychref12_Decimal_l0] at hh; cases hh
          | succ k ih =>
            intro n_5 s_6 hh nx
            rw [diptychref12_Decimal_l0] at hh
            refine hI _ ?_
            refine awp_seq ?_
            obtain ⟨e2, f2, hh⟩ := bind_ex hh
            refine awp_frag (fun s => .inr () = e2 ∧ ∃ (v_7 : Bool) (nx : Nat), s = ⟨[(0, .int .i64 n_5), (3, .str s_6), (15, .bool v_7)], [], nx⟩)
              (fun i s => (i = 0 ∧ .inl () = e2 ∧ ∃ (nx : Nat), s = ⟨[(0, .int .i64 n_5), (3, .str s_6), (15, .bool (s_6 == ([] : Str)))], [], nx⟩))
              (fun s => False) ?_ ?_ ?_ ?_
            · have hh := f2
              by_cases h8 : (decide (n_5 > (0 : Int))) = true
              · rw [if_pos h8] at hh
                refine awp_first fun K kk hK => ?_
                simp only [go_sem, h8, of_decide_eq_true h8, h8, of_decide_eq_true h8]
                (repeat refine sd ?_)
                refine hK _ _ fun nx => ?_; clear hK K; try clear kk
                refine awp_true rfl ?_
                refine awp_skip ?_; refine nmx ?_
                refine fragN ?_
                refine cut_id ?_
                refine ⟨(Option.some.inj hh), ?_⟩
                first | exact ⟨_, _, rfl⟩ | (simp only [api_Attr.pv_eq, api_Node.pv_eq, step_Step.pv_eq, diptychref11_Step.pv_eq, pvL, List.map_cons, List.map_nil, List.map_append, rune1]; exact ⟨_, _, rfl⟩) | (simp only [api_Attr.pv_eq, api_Node.pv_eq, step_Step.pv_eq, diptychref11_Step.pv_eq, pvL, List.map_cons, List.map_nil, List.map_append, rune1, h1, h8]; exact ⟨_, _, rfl⟩)
              · rw [if_neg h8] at hh
                replace h8 := Bool.eq_false_iff.mpr h8
                refine awp_first fun K kk hK => ?_
                simp only [go_sem, h8, of_decide_eq_false h8, h8, of_decide_eq_false h8]
                (repeat refine sd ?_)
                refine hK _ _ fun nx => ?_; clear hK K; try clear kk
                by_cases h9 : (s_6 == ([] : Str)) = true
                · rw [if_pos h9] at hh
                  refine awp_true (by first | exact congrArg PV.bool h9 | rfl) ?_
                  refine awp_skip ?_; refine nmx ?_
                  refine fragN ?_
                  refine cut_id ?_
                  refine ⟨(Option.some.inj hh), ?_⟩
                  first | exact ⟨_, _, rfl⟩ | (simp only [api_Attr.pv_eq, api_Node.pv_eq, step_Step.pv_eq, diptychref11_Step.pv_eq, pvL, List.map_cons, List.map_nil, List.map_append, rune1]; exact ⟨_, _, rfl⟩) | (simp only [api_Attr.pv_eq, api_Node.pv_eq, step_Step.pv_eq, diptychref11_Step.pv_eq, pvL, List.map_cons, List.map_nil, List.map_append, rune1, h1, h8, h9]; exact ⟨_, _, rfl⟩)
                · rw [if_neg h9] at hh
                  replace h9 := Bool.eq_false_iff.mpr h9
                  refine awp_false (by first | exact congrArg PV.bool h9 | rfl) ?_
                  refine awp_exit ?_; refine nmx ?_
                  refine fragE ⟨rfl, (Option.some.inj hh), ?_⟩
                  first | exact ⟨_, rfl⟩ | (simp only [api_Attr.pv_eq, api_Node.pv_eq, step_Step.pv_eq, diptychref11_Step.pv_eq, pvL, List.map_cons, List.map_nil, List.map_append, rune1]; exact ⟨_, rfl⟩) | (simp only [api_Attr.pv_eq, api_Node.pv_eq, step_Step.pv_eq, diptychref11_Step.pv_eq, pvL, List.map_cons, List.map_nil, List.map_append, rune1, h1, h8, h9]; exact ⟨_, rfl⟩)
            · rintro s ⟨rfl, v_7, nx, rfl⟩
              try dsimp only at hh
              refine awp_block ?_
              obtain ⟨s_8, h10, hh⟩ := bind_ex hh
              obtain ⟨h10a, h10c⟩ := sl_some h10
              have h10g := sl_le h10a
              have h10d := id h10c
              try simp only [Int.toNat_natCast, Int.reduceToNat] at h10d
              simp only [List.length_cons, List.length_nil, Nat.zero_add, Nat.reduceAdd] at h10a h10g
              obtain ⟨h11, hh⟩ := chk_some hh
              refine awp_first fun K kk hK => ?_
              simp only [go_sem, h10a.1, h10a.2.1, h10a.2.2, h10d, h10g, h11]
              (repeat refine sd ?_)
              refine hK _ _ fun nx => ?_; clear hK K; try clear kk
              refine awp_region fun K kk hK => ?_
              simp only [go_sem]
              refine hK _ _ fun nx => ?_; clear hK K; try clear kk
              refine nmx ?_
              have ih' := ih _ _ hh nx
              refine cut_id ?_
              first | exact ih' | (simp only [api_Attr.pv_eq, api_Node.pv_eq, step_Step.pv_eq, diptychref11_Step.pv_eq, pvL, List.map_cons, List.map_nil, List.map_append, rune1] at ih' ⊢; exact ih') | (simp only [api_Attr.pv_eq, api_Node.pv_eq, step_Step.pv_eq, diptychref11_Step.pv_eq, pvL, List.map_cons, List.map_nil, List.map_append, rune1, h1] at ih' ⊢; exact ih')
            · intro i s h
              obtain ⟨rfl, rfl, nx, rfl⟩ := h
              try dsimp only at hh
              refine nmx ?_
              refine fragN ?_
              refine cut_id ?_
              refine ⟨_, (Option.some.inj hh), ?_⟩
              first | exact ⟨_, _, _, rfl⟩ | (simp only [api_Attr.pv_eq, api_Node.pv_eq, step_Step.pv_eq, diptychref11_Step.pv_eq, pvL, List.map_cons, List.map_nil, List.map_append, rune1]; exact ⟨_, _, _, rfl⟩) | (simp only [api_Attr.pv_eq, api_Node.pv_eq, step_Step.pv_eq, diptychref11_Step.pv_eq, pvL, List.map_cons, List.map_nil, List.map_append, rune1, h1]; exact ⟨_, _, _, rfl⟩)
            · intro s h; exact h.elim
        exact key _ _ _ f0 _
      · rintro s ⟨s_10, rfl, n_9, v_11, nx, rfl⟩
        try dsimp only at hh
        refine awp_first fun K kk hK => ?_
        simp only [go_sem]
        refine hK _ _ fun nx => ?_; clear hK K; try clear kk
        refine awp_ret ?_; refine nmx ?_
        obtain hR := Option.some.inj hh
        subst hR
        exact ret_p2
      · intro i s h; exact h.elim
      · intro s h; exact h.elim
theorem diptychref12_Decimal_ok (n_1 : Int) (R : Str) (hh : diptychref12_Decimal n_1 = some R) : PC Tryz.prog 104 [.int .i64 n_1] (.str R) := by
  rw [diptychref12_Decimal] at hh
  obtain ⟨kr, hh⟩ := lim_some hh
  exact (diptychref12_Decimal_grp kr) _ _ hh
theorem diptychref12_Write_ok (s_1 : diptychref11_Step) (R : Str) (hh : diptychref12_Write s_1 = some R) : PC Tryz.prog 65 [.agg [.int .u8 s_1.Kind, .int .i64 s_1.From, .int .i64 s_1.To, .list 5 (s_1.Nodes.map api_Node.pv), .str s_1.Name, .str s_1.Value]] (.str R) := by
  rw [diptychref12_Write] at hh
  refine start_diptychref12_Write rfl ?_
  refine awp_first fun K kk hK => ?_
  simp only [go_sem]
  refine hK _ _ fun nx => ?_; clear hK K; try clear kk
  refine awp_seq ?_
  refine awp_first fun K kk hK => ?_
  simp only [go_sem]
  refine hK _ _ fun nx => ?_; clear hK K; try clear kk
  refine awp_block ?_
  refine awp_first fun K kk hK => ?_
  simp only [go_sem]
  refine hK _ _ fun nx => ?_; clear hK K; try clear kk
  by_cases h1 : (s_1.Kind == (114 : Int)) = true
  · rw [if_pos h1] at hh
    refine awp_true (by first | exact congrArg PV.bool h1 | rfl) ?_
    obtain ⟨decima_2, h2, hh⟩ := bind_ex hh
    obtain ⟨h3, hh⟩ := chk_some hh
    obtain ⟨h4, hh⟩ := chk_some hh
    obtain ⟨decima_3, h5, hh⟩ := bind_ex hh
    obtain ⟨h6, hh⟩ := chk_some hh
    refine awp_first fun K kk hK => ?_
    simp only [go_sem, h3, h4, h6]
    (repeat refine sd ?_)
    refine step_call2 (diptychref12_Decimal_ok _ _ h2) (by (try simp only [go_sem, h3, h4, h6]) <;> exact wkl) (by rfl) (by rfl) ?_
    simp only [go_sem, h3, h4, h6]
    (repeat refine sd ?_)
    refine step_call2 (diptychref12_Decimal_ok _ _ h5) (by (try simp only [go_sem, h3, h4, h6]) <;> exact wkl) (by rfl) (by rfl) ?_
    simp only [go_sem, h3, h4, h6]
    (repeat refine sd ?_)
    refine hK _ _ fun nx => ?_; clear hK K; try clear kk
    refine awp_seq ?_
    refine awp_first fun K kk hK => ?_
    simp only [go_sem]
    refine hK _ _ fun nx => ?_; clear hK K; try clear kk
    by_cases h7 : (decide ((s_1.Nodes.length : Int) > (0 : Int))) = true
    · rw [if_pos h7] at hh
      refine awp_true (by first | exact congrArg PV.bool h7 | rfl) ?_
      obtain ⟨h8, hh⟩ := chk_some hh
      obtain ⟨writea_4, h9, hh⟩ := bind_ex hh
      obtain ⟨h10, hh⟩ := chk_some hh
      refine awp_region fun K kk hK => ?_
      simp only [go_sem, h8, h10]
      (repeat refine sd ?_)
      refine step_call2 (diptychref2_WriteAll_ok _ _ h9) (by (try simp only [go_sem, h8, h10]) <;> exact wkl) (by rfl) (by rfl) ?_
      simp only [go_sem, h8, h10]
      (repeat refine sd ?_)
      refine hK _ _ fun nx => ?_; clear hK K; try clear kk
      refine nmx ?_
      refine awp_first fun K kk hK => ?_
      simp only [go_sem]
      refine hK _ _ fun nx => ?_; clear hK K; try clear kk
      refine awp_ret ?_; refine nmx ?_
      obtain hR := Option.some.inj hh
      subst hR
      exact ret_p2
    · rw [if_neg h7] at hh
      replace h7 := Bool.eq_false_iff.mpr h7
      refine awp_false (by first | exact congrArg PV.bool h7 | rfl) ?_
      refine awp_skip ?_; refine nmx ?_
      refine awp_first fun K kk hK => ?_
      simp only [go_sem]
      refine hK _ _ fun nx => ?_; clear hK K; try clear kk
      refine awp_ret ?_; refine nmx ?_
      obtain hR := Option.some.inj hh
      subst hR
      exact ret_p2
  · rw [if_neg h1] at hh
    replace h1 := Bool.eq_false_iff.mpr h1
    refine awp_false (by first | exact congrArg PV.bool h1 | rfl) ?_
    refine awp_first fun K kk hK => ?_
    simp only [go_sem]
    refine hK _ _ fun nx => ?_; clear hK K; try clear kk
    by_cases h11 : (s_1.Kind == (97 : Int)) = true
    · rw [if_pos h11] at hh
      refine awp_true (by first | exact congrArg PV.bool h11 | rfl) ?_
      obtain ⟨decima_5, h12, hh⟩ := bind_ex hh
      obtain ⟨h13, hh⟩ := chk_some hh
      obtain ⟨h14, hh⟩ := chk_some hh
      obtain ⟨h15, hh⟩ := chk_some hh
      obtain ⟨h16, hh⟩ := chk_some hh
      obtain ⟨quote_6, h17, hh⟩ := bind_ex hh
      obtain ⟨h18, hh⟩ := chk_some hh
      refine awp_first fun K kk hK => ?_
      simp only [go_sem, h13, h14, h15, h16, h18]
      (repeat refine sd ?_)
      refine step_call2 (diptychref12_Decimal_ok _ _ h12) (by (try simp only [go_sem, h13, h14, h15, h16, h18]) <;> exact wkl) (by rfl) (by rfl) ?_
      simp only [go_sem, h13, h14, h15, h16, h18]
      (repeat refine sd ?_)
      refine step_call2 (diptychref2_Quote_ok _ _ h17) (by (try simp only [go_sem, h13, h14, h15, h16, h18]) <;> exact wkl) (by rfl) (by rfl) ?_
      simp only [go_sem, h13, h14, h15, h16, h18]
      (repeat refine sd ?_)
      refine hK _ _ fun nx => ?_; clear hK K; try clear kk
      refine awp_ret ?_; refine nmx ?_
      obtain hR := Option.some.inj hh
      subst hR
      exact ret_p2
    · rw [if_neg h11] at hh
      replace h11 := Bool.eq_false_iff.mpr h11
      refine awp_false (by first | exact congrArg PV.bool h11 | rfl) ?_
      refine awp_first fun K kk hK => ?_
      simp only [go_sem]
      refine hK _ _ fun nx => ?_; clear hK K; try clear kk
      by_cases h19 : (s_1.Kind == (109 : Int)) = true
      · rw [if_pos h19] at hh
        refine awp_true (by first | exact congrArg PV.bool h19 | rfl) ?_
        obtain ⟨decima_7, h20, hh⟩ := bind_ex hh
        obtain ⟨h21, hh⟩ := chk_some hh
        obtain ⟨h22, hh⟩ := chk_some hh
        obtain ⟨decima_8, h23, hh⟩ := bind_ex hh
        obtain ⟨h24, hh⟩ := chk_some hh
        obtain ⟨h25, hh⟩ := chk_some hh
        obtain ⟨h26, hh⟩ := chk_some hh
        refine awp_first fun K kk hK => ?_
        simp only [go_sem, h21, h22, h24, h25, h26]
        (repeat refine sd ?_)
        refine step_call2 (diptychref12_Decimal_ok _ _ h20) (by (try simp only [go_sem, h21, h22, h24, h25, h26]) <;> exact wkl) (by rfl) (by rfl) ?_
        simp only [go_sem, h21, h22, h24, h25, h26]
        (repeat refine sd ?_)
        refine step_call2 (diptychref12_Decimal_ok _ _ h23) (by (try simp only [go_sem, h21, h22, h24, h25, h26]) <;> exact wkl) (by rfl) (by rfl) ?_
        simp only [go_sem, h21, h22, h24, h25, h26]
        (repeat refine sd ?_)
        refine hK _ _ fun nx => ?_; clear hK K; try clear kk
        refine awp_ret ?_; refine nmx ?_
        obtain hR := Option.some.inj hh
        subst hR
        exact ret_p2
      · rw [if_neg h19] at hh
        replace h19 := Bool.eq_false_iff.mpr h19
        refine awp_false (by first | exact congrArg PV.bool h19 | rfl) ?_
        refine awp_skip ?_; refine nmx ?_
        obtain ⟨decima_9, h27, hh⟩ := bind_ex hh
        obtain ⟨h28, hh⟩ := chk_some hh
        obtain ⟨h29, hh⟩ := chk_some hh
        obtain ⟨decima_10, h30, hh⟩ := bind_ex hh
        obtain ⟨h31, hh⟩ := chk_some hh
        obtain ⟨h32, hh⟩ := chk_some hh
        obtain ⟨h33, hh⟩ := chk_some hh
        refine awp_first fun K kk hK => ?_
        simp only [go_sem, h28, h29, h31, h32, h33]
        (repeat refine sd ?_)
        refine step_call2 (diptychref12_Decimal_ok _ _ h27) (by (try simp only [go_sem, h28, h29, h31, h32, h33]) <;> exact wkl) (by rfl) (by rfl) ?_
        simp only [go_sem, h28, h29, h31, h32, h33]
        (repeat refine sd ?_)
        refine step_call2 (diptychref12_Decimal_ok _ _ h30) (by (try simp only [go_sem, h28, h29, h31, h32, h33]) <;> exact wkl) (by rfl) (by rfl) ?_
        simp only [go_sem, h28, h29, h31, h32, h33]
        (repeat refine sd ?_)
        refine hK _ _ fun nx => ?_; clear hK K; try clear kk
        refine awp_ret ?_; refine nmx ?_
        obtain hR := Option.some.inj hh
        subst hR
        exact ret_p2
theorem diptychref12_Print_ok (s_1 : diptychref11_Step) (R : (Str × Int)) (hh : diptychref12_Print s_1 = some R) : PC Tryz.prog 26 [.agg [.int .u8 s_1.Kind, .int .i64 s_1.From, .int .i64 s_1.To, .list 5 (s_1.Nodes.map api_Node.pv), .str s_1.Name, .str s_1.Value]] (.tup [.str R.1, .int .i64 R.2]) := by
  rw [diptychref12_Print] at hh
  refine start_diptychref12_Print rfl ?_
  refine awp_first fun K kk hK => ?_
  simp only [go_sem]
  refine hK _ _ fun nx => ?_; clear hK K; try clear kk
  refine awp_seq ?_
  obtain ⟨right_2, h1, hh⟩ := bind_ex hh
  refine awp_first fun K kk hK => ?_
  simp only [go_sem]
  refine step_call2 (diptychref11_Right_ok _ _ h1) (by (try simp only [go_sem]) <;> exact wkl) (by rfl) (by rfl) ?_
  simp only [go_sem]
  refine hK _ _ fun nx => ?_; clear hK K; try clear kk
  by_cases h2 : (!right_2) = true
  · rw [if_pos h2] at hh
    refine awp_true (by first | exact congrArg PV.bool h2 | rfl) ?_
    refine awp_first fun K kk hK => ?_
    simp only [go_sem]
    refine hK _ _ fun nx => ?_; clear hK K; try clear kk
    refine awp_ret ?_; refine nmx ?_
    obtain hR := Option.some.inj hh
    subst hR
    exact ret_p2
  · rw [if_neg h2] at hh
    replace h2 := Bool.eq_false_iff.mpr h2
    refine awp_false (by first | exact congrArg PV.bool h2 | rfl) ?_
    refine awp_skip ?_; refine nmx ?_
    obtain ⟨⟨r_3, r_4⟩, h3, hh⟩ := bind_ex hh
    dsimp only at hh
    refine awp_first fun K kk hK => ?_
    simp only [go_sem]
    refine step_call2 (diptychref2_PrintAll_ok _ _ h3) (by (try simp only [go_sem]) <;> exact wkl) (by rfl) (by rfl) ?_
    simp only [go_sem]
    refine hK _ _ fun nx => ?_; clear hK K; try clear kk
    refine awp_seq ?_
    refine awp_first fun K kk hK => ?_
    simp only [go_sem]
    refine hK _ _ fun nx => ?_; clear hK K; try clear kk
    by_cases h4 : (r_4 != (0 : Int)) = true
    · rw [if_pos h4] at hh
      refine awp_true (by first | exact congrArg PV.bool h4 | rfl) ?_
      refine awp_first fun K kk hK => ?_
      simp only [go_sem]
      refine hK _ _ fun nx => ?_; clear hK K; try clear kk
      refine awp_ret ?_; refine nmx ?_
      obtain hR := Option.some.inj hh
      subst hR
      exact ret_p2
    · rw [if_neg h4] at hh
      replace h4 := Bool.eq_false_iff.mpr h4
      refine awp_false (by first | exact congrArg PV.bool h4 | rfl) ?_
      refine awp_skip ?_; refine nmx ?_
      obtain ⟨write_5, h5, hh⟩ := bind_ex hh
      refine awp_first fun K kk hK => ?_
      simp only [go_sem]
      refine step_call2 (diptychref12_Write_ok _ _ h5) (by (try simp only [go_sem]) <;> exact wkl) (by rfl) (by rfl) ?_
      simp only [go_sem]
      refine hK _ _ fun nx => ?_; clear hK K; try clear kk
      refine awp_ret ?_; refine nmx ?_
      obtain hR := Option.some.inj hh
      subst hR
      exact ret_p2
theorem diptychlaw12_asStep_ok (s_1 : step_Step) (R : diptychref11_Step) (hh : diptychlaw12_asStep s_1 = some R) : PC Tryz.prog 27 [.agg [.int .u8 s_1.Kind, .int .i64 s_1.From, .int .i64 s_1.To, .list 5 (s_1.Nodes.map api_Node.pv), .str s_1.Name, .str s_1.Value]] (.agg [.int .u8 R.Kind, .int .i64 R.From, .int .i64 R.To, .list 5 (R.Nodes.map api_Node.pv), .str R.Name, .str R.Value]) := by
  rw [diptychlaw12_asStep] at hh
  refine start_diptychlaw12_asStep rfl ?_
  refine awp_first fun K kk hK => ?_
  simp only [go_sem]
  refine hK _ _ fun nx => ?_; clear hK K; try clear kk
  refine awp_first fun K kk hK => ?_
  simp only [go_sem]
  refine hK _ _ fun nx => ?_; clear hK K; try clear kk
  refine awp_ret ?_; refine nmx ?_
  obtain hR := Option.some.inj hh
  subst hR
  exact ret_p2
theorem wire_PrintAll_ok (l_1 : (List step_Step)) (R : (Str × Int)) (hh : wire_PrintAll l_1 = some R) : PC Tryz.prog 28 [.list 6 (l_1.map step_Step.pv)] (.tup [.str R.1, .int .i64 R.2]) := by
  rw [wire_PrintAll] at hh
  refine start_wire_PrintAll rfl ?_
  refine awp_first fun K kk hK => ?_
  simp only [go_sem]
  refine hK _ _ fun nx => ?_; clear hK K; try clear kk
  refine awp_first fun K kk hK => ?_
  simp only [go_sem]
  refine hK _ _ fun nx => ?_; clear hK K; try clear kk
  refine awp_seq ?_
  refine awp_first fun K kk hK => ?_
  simp only [go_sem]
  refine hK _ _ fun nx => ?_; clear hK K; try clear kk
  obtain ⟨e0, f0, hh⟩ := bind_ex hh
  obtain ⟨hlen0, f0⟩ := chk_some f0
  refine awp_fragE (CutTo (fun s => ∃ v_22, .inr v_22 = e0 ∧ ∃ (v_20 : Int) (v_21 : Bool) (nx : Nat) (g4 : Nat) (g329 : Nat), s = ⟨[(4, .box 4 g4 0), (9, .list 6 (l_1.map step_Step.pv)), (10, .int .i64 (l_1.length : Int)), (11, .int .i64 v_20), (12, .bool v_21)], [(4, g4, .var 107 [.selfP 4 g4, .row 329 g329 v_22.length]), (329, g329, .bytes 5 v_22)], nx⟩))
    (fun i s => False)
    (fun s => ∃ res_19, .inl res_19 = e0 ∧ bodyR Tryz.prog [.tmp 2, .tmp 3] (.tup [.str res_19.1, .int .i64 res_19.2]) [] .ret s) ?_ ?_ ?_ ?_
  · refine awp_block ?_
    refine awp_loopJ fun I hI => ?_
    have key : ∀ (suf pre : List step_Step) (v_7 : Int) (v_8 : (List UInt8)), l_1 = pre ++ suf → v_7 = (pre.length : Int) → wire_PrintAll_l0 suf v_7 v_8 = some e0 → ∀ (nx : Nat) (g4 : Nat) (g329 : Nat), I ⟨[(4, .box 4 g4 0), (9, .list 6 (l_1.map step_Step.pv)), (10, .int .i64 (l_1.length : Int)), (11, .int .i64 v_7)], [(4, g4, .var 107 [.selfP 4 g4, .row 329 g329 v_8.length]), (329, g329, .bytes 5 v_8)], nx⟩ := by
      intro suf
      induction suf with
      | nil =>
        intro pre v_7 v_8 hsplit hidx hh nx g4 g329
        rw [wire_PrintAll_l0] at hh
        refine hI _ ?_
        have h13 := walk_nil hsplit hidx
        refine awp_first fun K kk hK => ?_
        simp only [go_sem]
        refine hK _ _ fun nx => ?_; clear hK K; try clear kk
        refine awp_seq ?_
        refine awp_false (by first | exact congrArg PV.bool h13 | rfl) ?_
        refine awp_exit ?_; refine nmx ?_
        refine fragN ?_
        refine cut_id ?_
        refine ⟨_, (Option.some.inj hh), ?_⟩
        first | exact ⟨_, _, _, _, _, rfl⟩ | (simp only [api_Attr.pv_eq, api_Node.pv_eq, step_Step.pv_eq, diptychref11_Step.pv_eq, pvL, List.map_cons, List.map_nil, List.map_append, rune1]; exact ⟨_, _, _, _, _, rfl⟩) | (simp only [api_Attr.pv_eq, api_Node.pv_eq, step_Step.pv_eq, diptychref11_Step.pv_eq, pvL, List.map_cons, List.map_nil, List.map_append, rune1, h13]; exact ⟨_, _, _, _, _, rfl⟩)
      | cons y_14 suf ih =>
        intro pre v_7 v_8 hsplit hidx hh nx g4 g329
        rw [wire_PrintAll_l0] at hh
        refine hI _ ?_
        obtain ⟨hl0a, hl0b, hl0d, hl0w, h13⟩ := walk_cons (f := step_Step.pv) hsplit hidx hlen0
        refine awp_first fun K kk hK => ?_
        simp only [go_sem]
        refine hK _ _ fun nx => ?_; clear hK K; try clear kk
        refine awp_seq ?_
        refine awp_true (by first | exact congrArg PV.bool h13 | rfl) ?_
        refine awp_skip ?_; refine nmx ?_
        refine awp_seq ?_
        refine awp_block ?_
        refine awp_first fun K kk hK => ?_
        simp only [go_sem, hl0a, hl0b, hl0d, hl0w]
        refine hK _ _ fun nx => ?_; clear hK K; try clear kk
        obtain ⟨⟨r_15, r_16⟩, h14, hh⟩ := bind_ex hh
        dsimp only at hh
        refine awp_first fun K kk hK => ?_
        simp only [go_sem, hl0a, hl0b, hl0d, hl0w]
        refine step_call2 (wire_Print_ok _ _ h14) (by (try simp only [go_sem, hl0a, hl0b, hl0d, hl0w]) <;> exact wkl) (by rfl) (by rfl) ?_
        simp only [go_sem, hl0a, hl0b, hl0d, hl0w]
        refine hK _ _ fun nx => ?_; clear hK K; try clear kk
        refine awp_seq ?_
        refine awp_first fun K kk hK => ?_
        simp only [go_sem, hl0a, hl0b, hl0d, hl0w]
        refine hK _ _ fun nx => ?_; clear hK K; try clear kk
        by_cases h15 : (r_16 != (0 : Int)) = true
        · rw [if_pos h15] at hh
          refine awp_true (by first | exact congrArg PV.bool h15 | rfl) ?_
          refine awp_first fun K kk hK => ?_
          simp only [go_sem, hl0a, hl0b, hl0d, hl0w]
          refine hK _ _ fun nx => ?_; clear hK K; try clear kk
          refine awp_ret ?_; refine nmx ?_
          refine fragR ⟨_, (Option.some.inj hh), ?_⟩
          exact ret_p2
        · rw [if_neg h15] at hh
          replace h15 := Bool.eq_false_iff.mpr h15
          refine awp_false (by first | exact congrArg PV.bool h15 | rfl) ?_
          refine awp_skip ?_; refine nmx ?_
          obtain ⟨h16, hh⟩ := chk_some hh
          obtain ⟨⟨r_17, l_18⟩, h17, hh⟩ := bind_ex hh
          dsimp only at hh
          refine awp_region fun K kk hK => ?_
          simp only [go_sem, h16, hl0a, hl0b, hl0d, hl0w]
          (repeat refine sd ?_)
          refine step_callC [4, 329] (by decide) (strings_Builder_WriteString_x_ok _ _ _ h17) (by (try simp only [go_sem, h16, hl0a, hl0b, hl0d, hl0w, h13, h15]) <;> exact wkb) (by rfl) ?_
          simp only [go_sem, h16, hl0a, hl0b, hl0d, hl0w]
          (repeat refine sd ?_)
          refine hK _ _ fun nx => ?_; clear hK K; try clear kk
          refine nmx ?_
          refine awp_region fun K kk hK => ?_
          simp only [go_sem, hl0a, hl0b, hl0d, hl0w]
          refine hK _ _ fun nx => ?_; clear hK K; try clear kk
          refine nmx ?_
          have ih' := ih (pre ++ [y_14]) (v_7 + 1) _ (by rw [hsplit]; simp) (by simp [hidx]) hh nx
          refine cut_id ?_
          first | exact ih' _ _ | (simp only [api_Attr.pv_eq, api_Node.pv_eq, step_Step.pv_eq, diptychref11_Step.pv_eq, pvL, List.map_cons, List.map_nil, List.map_append, rune1] at ih' ⊢; exact ih' _ _) | (simp only [api_Attr.pv_eq, api_Node.pv_eq, step_Step.pv_eq, diptychref11_Step.pv_eq, pvL, List.map_cons, List.map_nil, List.map_append, rune1, h13, h15] at ih' ⊢; exact ih' _ _)
    exact key l_1 [] _ _ rfl rfl f0 _ _ _
  · rintro s ⟨t, hless, v_22, rfl, v_20, v_21, nx, g4, g329, rfl⟩
    try dsimp only at hh
    refine nmy ?_
    first | (refine cut_less hless ?_; try refine cut_awp ?_) | refine frag_less hless ?_ | refine body_less hless ?_
    obtain ⟨⟨r_23, l_24⟩, h18, hh⟩ := bind_ex hh
    dsimp only at hh
    refine awp_first fun K kk hK => ?_
    simp only [go_sem]
    refine step_callC [4, 329] (by decide) (strings_Builder_String_x_ok _ _ h18) (by (try simp only [go_sem]) <;> exact wkb) (by rfl) ?_
    simp only [go_sem]
    refine hK _ _ fun nx => ?_; clear hK K; try clear kk
    refine awp_ret ?_; refine nmx ?_
    obtain hR := Option.some.inj hh
    subst hR
    exact ret_p2
  · intro i s h; exact h.elim
  · rintro s ⟨res_19, rfl, hb⟩
    try dsimp only at hh
    obtain hR := Option.some.inj hh
    subst hR
    refine nmx ?_
    exact hb
theorem diptychref12_PrintAll_ok (l_1 : (List diptychref11_Step)) (R : (Str × Int)) (hh : diptychref12_PrintAll l_1 = some R) : PC Tryz.prog 29 [.list 6 (l_1.map diptychref11_Step.pv)] (.tup [.str R.1, .int .i64 R.2]) := by
  rw [diptychref12_PrintAll] at hh
  refine start_diptychref12_PrintAll rfl ?_
  refine awp_first fun K kk hK => ?_
  simp only [go_sem]
  refine hK _ _ fun nx => ?_; clear hK K; try clear kk
  refine awp_first fun K kk hK => ?_
  simp only [go_sem]
  refine hK _ _ fun nx => ?_; clear hK K; try clear kk
  refine awp_seq ?_
  refine awp_first fun K kk hK => ?_
  simp only [go_sem]
  refine hK _ _ fun nx => ?_; clear hK K; try clear kk
  obtain ⟨e0, f0, hh⟩ := bind_ex hh
  obtain ⟨hlen0, f0⟩ := chk_some f0
  refine awp_fragE (CutTo (fun s => ∃ out_14, .inr out_14 = e0 ∧ ∃ (i_15 : Int) (v_16 : Bool) (nx : Nat), s = ⟨[(0, .list 6 (l_1.map diptychref11_Step.pv)), (4, .str out_14), (5, .int .i64 i_15), (11, .bool v_16)], [], nx⟩))
    (fun i s => False)
    (fun s => ∃ res_13, .inl res_13 = e0 ∧ bodyR Tryz.prog [.tmp 2, .tmp 3] (.tup [.str res_13.1, .int .i64 res_13.2]) [] .ret s) ?_ ?_ ?_ ?_
  · refine awp_block ?_
    refine awp_loopJ fun I hI => ?_
    have key : ∀ (suf pre : List diptychref11_Step) (i_6 : Int) (out_5 : Str), l_1 = pre ++ suf → i_6 = (pre.length : Int) → diptychref12_PrintAll_l0 suf i_6 out_5 = some e0 → ∀ (nx : Nat), I ⟨[(0, .list 6 (l_1.map diptychref11_Step.pv)), (4, .str out_5), (5, .int .i64 i_6)], [], nx⟩ := by
      intro suf
      induction suf with
      | nil =>
        intro pre i_6 out_5 hsplit hidx hh nx
        rw [diptychref12_PrintAll_l0] at hh
        refine hI _ ?_
        have h13 := walk_nil hsplit hidx
        refine awp_seq ?_
        refine awp_first fun K kk hK => ?_
        simp only [go_sem]
        refine hK _ _ fun nx => ?_; clear hK K; try clear kk
        refine awp_false (by first | exact congrArg PV.bool h13 | rfl) ?_
        refine awp_exit ?_; refine nmx ?_
        refine fragN ?_
        refine cut_id ?_
        refine ⟨_, (Option.some.inj hh), ?_⟩
        first | exact ⟨_, _, _, rfl⟩ | (simp only [api_Attr.pv_eq, api_Node.pv_eq, step_Step.pv_eq, diptychref11_Step.pv_eq, pvL, List.map_cons, List.map_nil, List.map_append, rune1]; exact ⟨_, _, _, rfl⟩) | (simp only [api_Attr.pv_eq, api_Node.pv_eq, step_Step.pv_eq, diptychref11_Step.pv_eq, pvL, List.map_cons, List.map_nil, List.map_append, rune1, h13]; exact ⟨_, _, _, rfl⟩)
      | cons y_10 suf ih =>
        intro pre i_6 out_5 hsplit hidx hh nx
        rw [diptychref12_PrintAll_l0] at hh
        refine hI _ ?_
        obtain ⟨hl0a, hl0b, hl0d, hl0w, h13⟩ := walk_cons (f := diptychref11_Step.pv) hsplit hidx hlen0
        refine awp_seq ?_
        refine awp_first fun K kk hK => ?_
        simp only [go_sem]
        refine hK _ _ fun nx => ?_; clear hK K; try clear kk
        refine awp_true (by first | exact congrArg PV.bool h13 | rfl) ?_
        refine awp_skip ?_; refine nmx ?_
        refine awp_seq ?_
        refine awp_block ?_
        obtain ⟨⟨r_11, r_12⟩, h14, hh⟩ := bind_ex hh
        dsimp only at hh
        refine awp_first fun K kk hK => ?_
        simp only [go_sem, hl0a, hl0b, hl0d, hl0w]
        refine step_call2 (diptychref12_Print_ok _ _ h14) (by (try simp only [go_sem, hl0a, hl0b, hl0d, hl0w]) <;> exact wkl) (by rfl) (by rfl) ?_
        simp only [go_sem, hl0a, hl0b, hl0d, hl0w]
        refine hK _ _ fun nx => ?_; clear hK K; try clear kk
        refine awp_seq ?_
        refine awp_first fun K kk hK => ?_
        simp only [go_sem, hl0a, hl0b, hl0d, hl0w]
        refine hK _ _ fun nx => ?_; clear hK K; try clear kk
        by_cases h15 : (r_12 != (0 : Int)) = true
        · rw [if_pos h15] at hh
          refine awp_true (by first | exact congrArg PV.bool h15 | rfl) ?_
          refine awp_first fun K kk hK => ?_
          simp only [go_sem, hl0a, hl0b, hl0d, hl0w]
          refine hK _ _ fun nx => ?_; clear hK K; try clear kk
          refine awp_ret ?_; refine nmx ?_
          refine fragR ⟨_, (Option.some.inj hh), ?_⟩
          exact ret_p2
        · rw [if_neg h15] at hh
          replace h15 := Bool.eq_false_iff.mpr h15
          refine awp_false (by first | exact congrArg PV.bool h15 | rfl) ?_
          refine awp_skip ?_; refine nmx ?_
          obtain ⟨h16, hh⟩ := chk_some hh
          obtain ⟨h17, hh⟩ := chk_some hh
          refine awp_region fun K kk hK => ?_
          simp only [go_sem, h16, h17, hl0a, hl0b, hl0d, hl0w]
          (repeat refine sd ?_)
          refine hK _ _ fun nx => ?_; clear hK K; try clear kk
          refine nmx ?_
          refine awp_region fun K kk hK => ?_
          simp only [go_sem, hl0a, hl0b, hl0d, hl0w]
          refine hK _ _ fun nx => ?_; clear hK K; try clear kk
          refine nmx ?_
          have ih' := ih (pre ++ [y_10]) (i_6 + 1) _ (by rw [hsplit]; simp) (by simp [hidx]) hh nx
          refine cut_id ?_
          first | exact ih' | (simp only [api_Attr.pv_eq, api_Node.pv_eq, step_Step.pv_eq, diptychref11_Step.pv_eq, pvL, List.map_cons, List.map_nil, List.map_append, rune1] at ih' ⊢; exact ih') | (simp only [api_Attr.pv_eq, api_Node.pv_eq, step_Step.pv_eq, diptychref11_Step.pv_eq, pvL, List.map_cons, List.map_nil, List.map_append, rune1, h13, h15] at ih' ⊢; exact ih')
    exact key l_1 [] _ _ rfl rfl f0 _
  · rintro s ⟨t, hless, out_14, rfl, i_15, v_16, nx, rfl⟩
    try dsimp only at hh
    refine nmy ?_
    first | (refine cut_less hless ?_; try refine cut_awp ?_) | refine frag_less hless ?_ | refine body_less hless ?_
    refine awp_first fun K kk hK => ?_
    simp only [go_sem]
    refine hK _ _ fun nx => ?_; clear hK K; try clear kk
    refine awp_ret ?_; refine nmx ?_
    obtain hR := Option.some.inj hh
    subst hR
    exact ret_p2
  · intro i s h; exact h.elim
  · rintro s ⟨res_13, rfl, hb⟩
    try dsimp only at hh
    obtain hR := Option.some.inj hh
    subst hR
    refine nmx ?_
    exact hb
theorem diptychlaw12_asSteps_ok (l_1 : (List step_Step)) (R : (List diptychref11_Step)) (hh : diptychlaw12_asSteps l_1 = some R) : PC Tryz.prog 30 [.list 6 (l_1.map step_Step.pv)] (.own 6 (R.map diptychref11_Step.pv)) := by
  rw [diptychlaw12_asSteps] at hh
  refine start_diptychlaw12_asSteps rfl ?_
  refine awp_first fun K kk hK => ?_
  simp only [go_sem]
  refine hK _ _ fun nx => ?_; clear hK K; try clear kk
  refine awp_first fun K kk hK => ?_
  simp only [go_sem]
  refine hK _ _ fun nx => ?_; clear hK K; try clear kk
  refine awp_seq ?_
  refine awp_first fun K kk hK => ?_
  simp only [go_sem]
  refine hK _ _ fun nx => ?_; clear hK K; try clear kk
  obtain ⟨e0, f0, hh⟩ := bind_ex hh
  obtain ⟨hlen0, f0⟩ := chk_some f0
  refine awp_fragE (CutTo (fun s => ∃ out_15, out_15 = e0 ∧ ∃ (i_13 : Int) (v_14 : Bool) (nx : Nat) (g3 : Nat), s = ⟨[(0, .list 6 (l_1.map step_Step.pv)), (3, .row 3 g3 out_15.length), (4, .int .i64 i_13), (8, .bool v_14)], [(3, g3, .row false 6 (out_15.map diptychref11_Step.pv))], nx⟩))
    (fun i s => False)
    (fun s => False) ?_ ?_ ?_ ?_
  · refine awp_block ?_
    refine awp_loopJ fun I hI => ?_
    have key : ∀ (suf pre : List step_Step) (i_5 : Int) (out_6 : (List diptychref11_Step)), l_1 = pre ++ suf → i_5 = (pre.length : Int) → diptychlaw12_asSteps_l0 suf i_5 out_6 = some e0 → ∀ (nx : Nat) (g3 : Nat), I ⟨[(0, .list 6 (l_1.map step_Step.pv)), (3, .row 3 g3 out_6.length), (4, .int .i64 i_5)], [(3, g3, .row false 6 (out_6.map diptychref11_Step.pv))], nx⟩ := by
      intro suf
      induction suf with
      | nil =>
        intro pre i_5 out_6 hsplit hidx hh nx g3
        rw [diptychlaw12_asSteps_l0] at hh
        refine hI _ ?_
        have h9 := walk_nil hsplit hidx
        refine awp_seq ?_
        refine awp_first fun K kk hK => ?_
        simp only [go_sem]
        refine hK _ _ fun nx => ?_; clear hK K; try clear kk
        refine awp_false (by first | exact congrArg PV.bool h9 | rfl) ?_
        refine awp_exit ?_; refine nmx ?_
        refine fragN ?_
        refine cut_id ?_
        refine ⟨_, (Option.some.inj hh), ?_⟩
        first | exact ⟨_, _, _, _, rfl⟩ | (simp only [api_Attr.pv_eq, api_Node.pv_eq, step_Step.pv_eq, diptychref11_Step.pv_eq, pvL, List.map_cons, List.map_nil, List.map_append, rune1]; exact ⟨_, _, _, _, rfl⟩) | (simp only [api_Attr.pv_eq, api_Node.pv_eq, step_Step.pv_eq, diptychref11_Step.pv_eq, pvL, List.map_cons, List.map_nil, List.map_append, rune1, h9]; exact ⟨_, _, _, _, rfl⟩)
      | cons y_10 suf ih =>
        intro pre i_5 out_6 hsplit hidx hh nx g3
        rw [diptychlaw12_asSteps_l0] at hh
        refine hI _ ?_
        obtain ⟨hl0a, hl0b, hl0d, hl0w, h9⟩ := walk_cons (f := step_Step.pv) hsplit hidx hlen0
        refine awp_seq ?_
        refine awp_first fun K kk hK => ?_
        simp only [go_sem]
        refine hK _ _ fun nx => ?_; clear hK K; try clear kk
        refine awp_true (by first | exact congrArg PV.bool h9 | rfl) ?_
        refine awp_skip ?_; refine nmx ?_
        refine awp_seq ?_
        refine awp_block ?_
        obtain ⟨asstep_11, h10, hh⟩ := bind_ex hh
        obtain ⟨l_12, h11, hh⟩ := bind_ex hh
        obtain ⟨h11a, h11c⟩ := app_some h11
        have h11d := app_map (f := diptychref11_Step.pv) h11c
        have h11e := app_len h11c
        try simp only [List.length_cons, List.length_nil, Nat.zero_add, Nat.reduceAdd] at h11a h11e
        try simp only [h11e] at h11a
        try simp only [List.map_cons, List.map_nil, List.nil_append, List.append_nil, List.cons_append, List.singleton_append, rune1, api_Attr.pv_eq, api_Node.pv_eq, step_Step.pv_eq, diptychref11_Step.pv_eq, pvL] at h11d
        refine awp_region fun K kk hK => ?_
        simp only [go_sem, h11a, h11d, h11e, hl0a, hl0b, hl0d, hl0w]
        (repeat refine sd ?_)
        refine step_call2 (diptychlaw12_asStep_ok _ _ h10) (by (try simp only [go_sem, h11a, h11d, h11e, hl0a, hl0b, hl0d, hl0w]) <;> exact wkl) (by rfl) (by rfl) ?_
        simp only [go_sem, h11a, h11d, h11e, hl0a, hl0b, hl0d, hl0w]
        (repeat refine sd ?_)
        refine hK _ _ fun nx => ?_; clear hK K; try clear kk
        refine nmx ?_
        refine awp_region fun K kk hK => ?_
        simp only [go_sem, hl0a, hl0b, hl0d, hl0w]
        refine hK _ _ fun nx => ?_; clear hK K; try clear kk
        refine nmx ?_
        have ih' := ih (pre ++ [y_10]) (i_5 + 1) _ (by rw [hsplit]; simp) (by simp [hidx]) hh nx
        refine cut_id ?_
        first | exact ih' _ | (simp only [api_Attr.pv_eq, api_Node.pv_eq, step_Step.pv_eq, diptychref11_Step.pv_eq, pvL, List.map_cons, List.map_nil, List.map_append, rune1, h11e] at ih' ⊢; exact ih' _) | (simp only [api_Attr.pv_eq, api_Node.pv_eq, step_Step.pv_eq, diptychref11_Step.pv_eq, pvL, List.map_cons, List.map_nil, List.map_append, rune1, h11e, h9] at ih' ⊢; exact ih' _)
    exact key l_1 [] _ _ rfl rfl f0 _ _
  · rintro s ⟨t, hless, out_15, rfl, i_13, v_14, nx, g3, rfl⟩
    try dsimp only at hh
    refine nmy ?_
    first | (refine cut_less hless ?_; try refine cut_awp ?_) | refine frag_less hless ?_ | refine body_less hless ?_
    refine awp_first fun K kk hK => ?_
    simp only [go_sem]
    refine hK _ _ fun nx => ?_; clear hK K; try clear kk
    refine awp_ret ?_; refine nmx ?_
    obtain hR := Option.some.inj hh
    subst hR
    exact ret_own (by rfl) (by rfl) (by rfl) (by simp only [List.length_map, List.length_cons, List.length_nil, Nat.zero_add, Nat.reduceAdd]) (by first | rfl | (simp only [api_Attr.pv_eq, api_Node.pv_eq, step_Step.pv_eq, diptychref11_Step.pv_eq, pvL, List.map_cons, List.map_nil, List.map_append, rune1]; done) | (simp only [api_Attr.pv_eq, api_Node.pv_eq, step_Step.pv_eq, diptychref11_Step.pv_eq, pvL, List.map_cons, List.map_nil, List.map_append, rune1]; rfl))
  · intro i s h; exact h.elim
  · intro s h; exact h.elim

end Go.Proofs.YtclohbgnaopjfaaGreatDoor
