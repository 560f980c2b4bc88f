/- What the functions answer, the program answers (2). -/
import Derived.Test.YtihndopckmdpbaaDoorAgC
import Derived.Test.YtihndopckmdpbaaDoorAgF
import Derived.Test.YtihndopckmdpbaaDoorAgK0
import Derived.Test.YtihndopckmdpbaaDoorAgK1
namespace Go.Proofs.YtihndopckmdpbaaDoor
set_option linter.unusedSimpArgs false
set_option linter.unusedVariables false
open Go
set_option maxRecDepth 100000

theorem diptychref2_WriteAll_grp : ∀ kr : Nat, (∀ (l_1 : (List api_Node)) (R : Str), diptychref2_WriteAll_k kr l_1 = some R → PC Tryd.prog 37 [.list 5 (l_1.map api_Node.pv)] (.str R)) ∧
    (∀ (n_1 : api_Node) (R : Str), diptychref2_Write_k kr n_1 = some R → PC Tryd.prog 36 [.agg [.str n_1.Kind, .str n_1.Text, .list 1 (n_1.Marks.map PV.str), .list 2 (n_1.Attrs.map api_Attr.pv), .list 5 (n_1.Kids.map api_Node.pv)]] (.str R)) := by
  intro kr
  induction kr with
  | zero => exact ⟨(by intro l_1 R hh; rw [diptychref2_WriteAll_k] at hh; cases hh), (by intro n_1 R hh; rw [diptychref2_Write_k] at hh; cases hh)⟩
  | succ kr ih =>
    obtain ⟨ih_diptychref2_WriteAll, ih_diptychref2_Write⟩ := ih
    refine ⟨?_, ?_⟩
    · intro l_1 R hh
      rw [diptychref2_WriteAll_k] at hh
      refine start_diptychref2_WriteAll rfl ?_
      refine awp_first fun K kk hK => ?_
      simp only [go_sem]
      refine hK _ _ fun nx => ?_; clear hK K; try clear kk
      refine awp_first fun K kk hK => ?_
      simp only [go_sem]
      refine hK _ _ fun nx => ?_; clear hK K; try clear kk
      refine awp_seq ?_
      refine awp_first fun K kk hK => ?_
      simp only [go_sem]
      refine hK _ _ fun nx => ?_; clear hK K; try clear kk
      obtain ⟨e0, f0, hh⟩ := bind_ex hh
      obtain ⟨hlen0, f0⟩ := chk_some f0
      refine awp_fragE (CutTo (fun s => ∃ s_10, s_10 = e0 ∧ ∃ (i_11 : Int) (v_12 : Bool) (nx : Nat), s = ⟨[(0, .list 5 (l_1.map api_Node.pv)), (3, .str s_10), (4, .int .i64 i_11), (8, .bool v_12)], [], nx⟩))
        (fun i s => False)
        (fun s => False) ?_ ?_ ?_ ?_
      · refine awp_block ?_
        refine awp_loopJ fun I hI => ?_
        have key : ∀ (suf pre : List api_Node) (i_5 : Int) (s_4 : Str), l_1 = pre ++ suf → i_5 = (pre.length : Int) → diptychref2_WriteAll_l0 (diptychref2_Write_k kr) suf i_5 s_4 = some e0 → ∀ (nx : Nat), I ⟨[(0, .list 5 (l_1.map api_Node.pv)), (3, .str s_4), (4, .int .i64 i_5)], [], nx⟩ := by
          intro suf
          induction suf with
          | nil =>
            intro pre i_5 s_4 hsplit hidx hh nx
            rw [diptychref2_WriteAll_l0] at hh
            refine hI _ ?_
            have h9 := walk_nil hsplit hidx
            refine awp_seq ?_
            refine awp_first fun K kk hK => ?_
            simp only [go_sem]
            refine hK _ _ fun nx => ?_; clear hK K; try clear kk
            refine awp_false (by first | exact congrArg PV.bool h9 | rfl) ?_
            refine awp_exit ?_; refine nmx ?_
            refine fragN ?_
            refine cut_id ?_
            refine ⟨_, (Option.some.inj hh), ?_⟩
            first | exact ⟨_, _, _, rfl⟩ | (simp only [api_Attr.pv_eq, api_Node.pv_eq, codec_reader.pv_eq, diptychlaw2_Cell.pv_eq, pvL, List.map_cons, List.map_nil, List.map_append, rune1]; exact ⟨_, _, _, rfl⟩) | (simp only [api_Attr.pv_eq, api_Node.pv_eq, codec_reader.pv_eq, diptychlaw2_Cell.pv_eq, pvL, List.map_cons, List.map_nil, List.map_append, rune1, h9]; exact ⟨_, _, _, rfl⟩)
          | cons y_8 suf ih =>
            intro pre i_5 s_4 hsplit hidx hh nx
            rw [diptychref2_WriteAll_l0] at hh
            refine hI _ ?_
            obtain ⟨hl0a, hl0b, hl0d, hl0w, h9⟩ := walk_cons (f := api_Node.pv) hsplit hidx hlen0
            refine awp_seq ?_
            refine awp_first fun K kk hK => ?_
            simp only [go_sem]
            refine hK _ _ fun nx => ?_; clear hK K; try clear kk
            refine awp_true (by first | exact congrArg PV.bool h9 | rfl) ?_
            refine awp_skip ?_; refine nmx ?_
            refine awp_seq ?_
            refine awp_block ?_
            obtain ⟨write_9, h10, hh⟩ := bind_ex hh
            obtain ⟨h11, hh⟩ := chk_some hh
            refine awp_region fun K kk hK => ?_
            simp only [go_sem, h11, hl0a, hl0b, hl0d, hl0w]
            (repeat refine sd ?_)
            refine step_call2 (ih_diptychref2_Write _ _ h10) (by (try simp only [go_sem, h11, hl0a, hl0b, hl0d, hl0w]) <;> exact wkl) (by rfl) (by rfl) ?_
            simp only [go_sem, h11, hl0a, hl0b, hl0d, hl0w]
            (repeat refine sd ?_)
            refine hK _ _ fun nx => ?_; clear hK K; try clear kk
            refine nmx ?_
            refine awp_region fun K kk hK => ?_
            simp only [go_sem, hl0a, hl0b, hl0d, hl0w]
            refine hK _ _ fun nx => ?_; clear hK K; try clear kk
            refine nmx ?_
            have ih' := ih (pre ++ [y_8]) (i_5 + 1) _ (by rw [hsplit]; simp) (by simp [hidx]) hh nx
            refine cut_id ?_
            first | exact ih' | (simp only [api_Attr.pv_eq, api_Node.pv_eq, codec_reader.pv_eq, diptychlaw2_Cell.pv_eq, pvL, List.map_cons, List.map_nil, List.map_append, rune1] at ih' ⊢; exact ih') | (simp only [api_Attr.pv_eq, api_Node.pv_eq, codec_reader.pv_eq, diptychlaw2_Cell.pv_eq, pvL, List.map_cons, List.map_nil, List.map_append, rune1, h9] at ih' ⊢; exact ih')
        exact key l_1 [] _ _ rfl rfl f0 _
      · rintro s ⟨t, hless, s_10, rfl, i_11, v_12, nx, rfl⟩
        try dsimp only at hh
        refine nmy ?_
        first | (refine cut_less hless ?_; try refine cut_awp ?_) | refine frag_less hless ?_ | refine body_less hless ?_
        refine awp_first fun K kk hK => ?_
        simp only [go_sem]
        refine hK _ _ fun nx => ?_; clear hK K; try clear kk
        refine awp_ret ?_; refine nmx ?_
        obtain hR := Option.some.inj hh
        subst hR
        exact ret_p2
      · intro i s h; exact h.elim
      · intro s h; exact h.elim
    · intro n_1 R hh
      rw [diptychref2_Write_k] at hh
      refine start_diptychref2_Write rfl ?_
      refine awp_first fun K kk hK => ?_
      simp only [go_sem]
      refine hK _ _ fun nx => ?_; clear hK K; try clear kk
      refine awp_seq ?_
      refine awp_first fun K kk hK => ?_
      simp only [go_sem]
      refine hK _ _ fun nx => ?_; clear hK K; try clear kk
      by_cases h1 : (n_1.Kind == ([116, 101, 120, 116] : Str)) = true
      · rw [if_pos h1] at hh
        refine awp_true (by first | exact congrArg PV.bool h1 | rfl) ?_
        obtain ⟨quote_2, h2, hh⟩ := bind_ex hh
        obtain ⟨head_3, h3, hh⟩ := bind_ex hh
        obtain ⟨h4, hh⟩ := chk_some hh
        refine awp_first fun K kk hK => ?_
        simp only [go_sem, h4]
        (repeat refine sd ?_)
        refine step_call2 (diptychref2_Quote_ok _ _ h2) (by (try simp only [go_sem, h4]) <;> exact wkl) (by rfl) (by rfl) ?_
        simp only [go_sem, h4]
        (repeat refine sd ?_)
        refine step_call2 (diptychref2_Head_ok _ _ h3) (by (try simp only [go_sem, h4]) <;> exact wkl) (by rfl) (by rfl) ?_
        simp only [go_sem, h4]
        (repeat refine sd ?_)
        refine hK _ _ fun nx => ?_; clear hK K; try clear kk
        refine awp_ret ?_; refine nmx ?_
        obtain hR := Option.some.inj hh
        subst hR
        exact ret_p2
      · rw [if_neg h1] at hh
        replace h1 := Bool.eq_false_iff.mpr h1
        refine awp_false (by first | exact congrArg PV.bool h1 | rfl) ?_
        refine awp_skip ?_; refine nmx ?_
        obtain ⟨head_4, h5, hh⟩ := bind_ex hh
        obtain ⟨h6, hh⟩ := chk_some hh
        obtain ⟨writea_5, h7, hh⟩ := bind_ex hh
        obtain ⟨h8, hh⟩ := chk_some hh
        obtain ⟨h9, hh⟩ := chk_some hh
        refine awp_first fun K kk hK => ?_
        simp only [go_sem, h6, h8, h9]
        (repeat refine sd ?_)
        refine step_call2 (diptychref2_Head_ok _ _ h5) (by (try simp only [go_sem, h6, h8, h9]) <;> exact wkl) (by rfl) (by rfl) ?_
        simp only [go_sem, h6, h8, h9]
        (repeat refine sd ?_)
        refine step_call2 (ih_diptychref2_WriteAll _ _ h7) (by (try simp only [go_sem, h6, h8, h9]) <;> exact wkl) (by rfl) (by rfl) ?_
        simp only [go_sem, h6, h8, h9]
        (repeat refine sd ?_)
        refine hK _ _ fun nx => ?_; clear hK K; try clear kk
        refine awp_ret ?_; refine nmx ?_
        obtain hR := Option.some.inj hh
        subst hR
        exact ret_p2
theorem diptychref2_WriteAll_ok (l_1 : (List api_Node)) (R : Str) (hh : diptychref2_WriteAll l_1 = some R) : PC Tryd.prog 37 [.list 5 (l_1.map api_Node.pv)] (.str R) := by
  rw [diptychref2_WriteAll] at hh
  obtain ⟨kr, hh⟩ := lim_some hh
  exact (diptychref2_WriteAll_grp kr).1 _ _ hh
theorem diptychref2_Write_ok (n_1 : api_Node) (R : Str) (hh : diptychref2_Write n_1 = some R) : PC Tryd.prog 36 [.agg [.str n_1.Kind, .str n_1.Text, .list 1 (n_1.Marks.map PV.str), .list 2 (n_1.Attrs.map api_Attr.pv), .list 5 (n_1.Kids.map api_Node.pv)]] (.str R) := by
  rw [diptychref2_Write] at hh
  obtain ⟨kr, hh⟩ := lim_some hh
  exact (diptychref2_WriteAll_grp kr).2 _ _ hh
theorem diptychref2_Print_ok (n_1 : api_Node) (R : (Str × Int)) (hh : diptychref2_Print n_1 = some R) : PC Tryd.prog 13 [.agg [.str n_1.Kind, .str n_1.Text, .list 1 (n_1.Marks.map PV.str), .list 2 (n_1.Attrs.map api_Attr.pv), .list 5 (n_1.Kids.map api_Node.pv)]] (.tup [.str R.1, .int .i64 R.2]) := by
  rw [diptychref2_Print] at hh
  refine start_diptychref2_Print rfl ?_
  refine awp_first fun K kk hK => ?_
  simp only [go_sem]
  refine hK _ _ fun nx => ?_; clear hK K; try clear kk
  obtain ⟨check_2, h1, hh⟩ := bind_ex hh
  refine awp_first fun K kk hK => ?_
  simp only [go_sem]
  refine step_call2 (diptychref1_Check_ok _ _ h1) (by (try simp only [go_sem]) <;> exact wkl) (by rfl) (by rfl) ?_
  simp only [go_sem]
  refine hK _ _ fun nx => ?_; clear hK K; try clear kk
  refine awp_seq ?_
  refine awp_first fun K kk hK => ?_
  simp only [go_sem]
  refine hK _ _ fun nx => ?_; clear hK K; try clear kk
  by_cases h2 : (check_2 != (0 : Int)) = true
  · rw [if_pos h2] at hh
    refine awp_true (by first | exact congrArg PV.bool h2 | rfl) ?_
    refine awp_first fun K kk hK => ?_
    simp only [go_sem]
    refine hK _ _ fun nx => ?_; clear hK K; try clear kk
    refine awp_ret ?_; refine nmx ?_
    obtain hR := Option.some.inj hh
    subst hR
    exact ret_p2
  · rw [if_neg h2] at hh
    replace h2 := Bool.eq_false_iff.mpr h2
    refine awp_false (by first | exact congrArg PV.bool h2 | rfl) ?_
    refine awp_skip ?_; refine nmx ?_
    obtain ⟨write_3, h3, hh⟩ := bind_ex hh
    refine awp_first fun K kk hK => ?_
    simp only [go_sem]
    refine step_call2 (diptychref2_Write_ok _ _ h3) (by (try simp only [go_sem]) <;> exact wkl) (by rfl) (by rfl) ?_
    simp only [go_sem]
    refine hK _ _ fun nx => ?_; clear hK K; try clear kk
    refine awp_ret ?_; refine nmx ?_
    obtain hR := Option.some.inj hh
    subst hR
    exact ret_p2
theorem diptychref2_PrintAll_ok (l_1 : (List api_Node)) (R : (Str × Int)) (hh : diptychref2_PrintAll l_1 = some R) : PC Tryd.prog 15 [.list 5 (l_1.map api_Node.pv)] (.tup [.str R.1, .int .i64 R.2]) := by
  rw [diptychref2_PrintAll] at hh
  refine start_diptychref2_PrintAll rfl ?_
  refine awp_first fun K kk hK => ?_
  simp only [go_sem]
  refine hK _ _ fun nx => ?_; clear hK K; try clear kk
  obtain ⟨check_2, h1, hh⟩ := bind_ex hh
  refine awp_first fun K kk hK => ?_
  simp only [go_sem]
  refine step_call2 (diptychref1_Check_ok _ _ h1) (by (try simp only [go_sem]) <;> exact wkl) (by rfl) (by rfl) ?_
  simp only [go_sem]
  refine hK _ _ fun nx => ?_; clear hK K; try clear kk
  refine awp_seq ?_
  refine awp_first fun K kk hK => ?_
  simp only [go_sem]
  refine hK _ _ fun nx => ?_; clear hK K; try clear kk
  by_cases h2 : (check_2 != (0 : Int)) = true
  · rw [if_pos h2] at hh
    refine awp_true (by first | exact congrArg PV.bool h2 | rfl) ?_
    refine awp_first fun K kk hK => ?_
    simp only [go_sem]
    refine hK _ _ fun nx => ?_; clear hK K; try clear kk
    refine awp_ret ?_; refine nmx ?_
    obtain hR := Option.some.inj hh
    subst hR
    exact ret_p2
  · rw [if_neg h2] at hh
    replace h2 := Bool.eq_false_iff.mpr h2
    refine awp_false (by first | exact congrArg PV.bool h2 | rfl) ?_
    refine awp_skip ?_; refine nmx ?_
    obtain ⟨writea_3, h3, hh⟩ := bind_ex hh
    refine awp_first fun K kk hK => ?_
    simp only [go_sem]
    refine step_call2 (diptychref2_WriteAll_ok _ _ h3) (by (try simp only [go_sem]) <;> exact wkl) (by rfl) (by rfl) ?_
    simp only [go_sem]
    refine hK _ _ fun nx => ?_; clear hK K; try clear kk
    refine awp_ret ?_; refine nmx ?_
    obtain hR := Option.some.inj hh
    subst hR
    exact ret_p2
theorem diptychlaw2_CodecPrints_ok (n_1 : api_Node) (s_2 : Str) (R : Bool) (hh : diptychlaw2_CodecPrints n_1 s_2 = some R) : PC Tryd.prog 3 [.agg [.str n_1.Kind, .str n_1.Text, .list 1 (n_1.Marks.map PV.str), .list 2 (n_1.Attrs.map api_Attr.pv), .list 5 (n_1.Kids.map api_Node.pv)], .str s_2] (.bool R) := by
  rw [diptychlaw2_CodecPrints] at hh
  refine start_diptychlaw2_CodecPrints rfl ?_
  refine awp_first fun K kk hK => ?_
  simp only [go_sem]
  refine hK _ _ fun nx => ?_; clear hK K; try clear kk
  obtain ⟨shown_3, h1, hh⟩ := bind_ex hh
  refine awp_first fun K kk hK => ?_
  simp only [go_sem]
  refine step_call2 (diptychlaw2_shown_ok _ h1) (by (try simp only [go_sem]) <;> exact wkl) (by rfl) (by rfl) ?_
  simp only [go_sem]
  refine hK _ _ fun nx => ?_; clear hK K; try clear kk
  refine awp_seq ?_
  by_cases h2 : (!shown_3) = true
  · rw [if_pos h2] at hh
    refine awp_first fun K kk hK => ?_
    simp only [go_sem, h2, h2]
    (repeat refine sd ?_)
    refine hK _ _ fun nx => ?_; clear hK K; try clear kk
    refine awp_true rfl ?_
    refine awp_first fun K kk hK => ?_
    simp only [go_sem]
    refine hK _ _ fun nx => ?_; clear hK K; try clear kk
    refine awp_ret ?_; refine nmx ?_
    obtain hR := Option.some.inj hh
    subst hR
    exact ret_p2
  · rw [if_neg h2] at hh
    replace h2 := Bool.eq_false_iff.mpr h2
    obtain ⟨light_4, h3, hh⟩ := bind_ex hh
    by_cases h4 : (decide (light_4 < (0 : Int))) = true
    · rw [if_pos h4] at hh
      refine awp_first fun K kk hK => ?_
      simp only [go_sem, h2, h2, h4, of_decide_eq_true h4, h4, of_decide_eq_true h4]
      (repeat refine sd ?_)
      refine step_call2 (diptychlaw2_light_ok _ _ _ h3) (by (try simp only [go_sem, h2, h2, h4, of_decide_eq_true h4, h4, of_decide_eq_true h4]) <;> exact wkl) (by rfl) (by rfl) ?_
      simp only [go_sem, h2, h2, h4, of_decide_eq_true h4, h4, of_decide_eq_true h4]
      (repeat refine sd ?_)
      refine hK _ _ fun nx => ?_; clear hK K; try clear kk
      refine awp_true rfl ?_
      refine awp_first fun K kk hK => ?_
      simp only [go_sem]
      refine hK _ _ fun nx => ?_; clear hK K; try clear kk
      refine awp_ret ?_; refine nmx ?_
      obtain hR := Option.some.inj hh
      subst hR
      exact ret_p2
    · rw [if_neg h4] at hh
      replace h4 := Bool.eq_false_iff.mpr h4
      refine awp_first fun K kk hK => ?_
      simp only [go_sem, h2, h2, h4, of_decide_eq_false h4, h4, of_decide_eq_false h4]
      (repeat refine sd ?_)
      refine step_call2 (diptychlaw2_light_ok _ _ _ h3) (by (try simp only [go_sem, h2, h2, h4, of_decide_eq_false h4, h4, of_decide_eq_false h4]) <;> exact wkl) (by rfl) (by rfl) ?_
      simp only [go_sem, h2, h2, h4, of_decide_eq_false h4, h4, of_decide_eq_false h4]
      (repeat refine sd ?_)
      refine hK _ _ fun nx => ?_; clear hK K; try clear kk
      by_cases h5 : (decide ((s_2.length : Int) > (500 : Int))) = true
      · rw [if_pos h5] at hh
        refine awp_true (by first | exact congrArg PV.bool h5 | rfl) ?_
        refine awp_first fun K kk hK => ?_
        simp only [go_sem]
        refine hK _ _ fun nx => ?_; clear hK K; try clear kk
        refine awp_ret ?_; refine nmx ?_
        obtain hR := Option.some.inj hh
        subst hR
        exact ret_p2
      · rw [if_neg h5] at hh
        replace h5 := Bool.eq_false_iff.mpr h5
        refine awp_false (by first | exact congrArg PV.bool h5 | rfl) ?_
        refine awp_skip ?_; refine nmx ?_
        obtain ⟨⟨r_5, r_6⟩, h6, hh⟩ := bind_ex hh
        dsimp only at hh
        refine awp_first fun K kk hK => ?_
        simp only [go_sem]
        refine step_call2 (codec_Print_ok _ _ h6) (by (try simp only [go_sem]) <;> exact wkl) (by rfl) (by rfl) ?_
        simp only [go_sem]
        refine hK _ _ fun nx => ?_; clear hK K; try clear kk
        obtain ⟨⟨r_7, r_8⟩, h7, hh⟩ := bind_ex hh
        dsimp only at hh
        refine awp_first fun K kk hK => ?_
        simp only [go_sem]
        refine step_call2 (diptychref2_Print_ok _ _ h7) (by (try simp only [go_sem]) <;> exact wkl) (by rfl) (by rfl) ?_
        simp only [go_sem]
        refine hK _ _ fun nx => ?_; clear hK K; try clear kk
        obtain ⟨⟨r_9, r_10⟩, h8, hh⟩ := bind_ex hh
        dsimp only at hh
        refine awp_first fun K kk hK => ?_
        simp only [go_sem]
        refine step_call2 (codec_PrintAll_ok _ _ h8) (by (try simp only [go_sem]) <;> exact wkl) (by rfl) (by rfl) ?_
        simp only [go_sem]
        refine hK _ _ fun nx => ?_; clear hK K; try clear kk
        obtain ⟨⟨r_11, r_12⟩, h9, hh⟩ := bind_ex hh
        dsimp only at hh
        refine awp_first fun K kk hK => ?_
        simp only [go_sem]
        refine step_call2 (diptychref2_PrintAll_ok _ _ h9) (by (try simp only [go_sem]) <;> exact wkl) (by rfl) (by rfl) ?_
        simp only [go_sem]
        refine hK _ _ fun nx => ?_; clear hK K; try clear kk
        by_cases h10 : (r_5 == r_7) = true
        · rw [if_pos h10] at hh
          by_cases h11 : (r_6 == r_8) = true
          · rw [if_pos h11] at hh
            by_cases h12 : (r_9 == r_11) = true
            · rw [if_pos h12] at hh
              by_cases h13 : (r_10 == r_12) = true
              · rw [if_pos h13] at hh
                obtain ⟨quote_13, h14, hh⟩ := bind_ex hh
                obtain ⟨quote_14, h15, hh⟩ := bind_ex hh
                by_cases h16 : (quote_13 == quote_14) = true
                · rw [if_pos h16] at hh
                  obtain ⟨head_15, h17, hh⟩ := bind_ex hh
                  obtain ⟨head_16, h18, hh⟩ := bind_ex hh
                  refine awp_first fun K kk hK => ?_
                  simp only [go_sem, h10, h10, h11, h11, h12, h12, h13, h13, h16, h16]
                  (repeat refine sd ?_)
                  refine step_call2 (codec_Quote_ok _ _ h14) (by (try simp only [go_sem, h10, h10, h11, h11, h12, h12, h13, h13, h16, h16]) <;> exact wkl) (by rfl) (by rfl) ?_
                  simp only [go_sem, h10, h10, h11, h11, h12, h12, h13, h13, h16, h16]
                  (repeat refine sd ?_)
                  refine step_call2 (diptychref2_Quote_ok _ _ h15) (by (try simp only [go_sem, h10, h10, h11, h11, h12, h12, h13, h13, h16, h16]) <;> exact wkl) (by rfl) (by rfl) ?_
                  simp only [go_sem, h10, h10, h11, h11, h12, h12, h13, h13, h16, h16]
                  (repeat refine sd ?_)
                  refine step_call2 (codec_Head_ok _ _ h17) (by (try simp only [go_sem, h10, h10, h11, h11, h12, h12, h13, h13, h16, h16]) <;> exact wkl) (by rfl) (by rfl) ?_
                  simp only [go_sem, h10, h10, h11, h11, h12, h12, h13, h13, h16, h16]
                  (repeat refine sd ?_)
                  refine step_call2 (diptychref2_Head_ok _ _ h18) (by (try simp only [go_sem, h10, h10, h11, h11, h12, h12, h13, h13, h16, h16]) <;> exact wkl) (by rfl) (by rfl) ?_
                  simp only [go_sem, h10, h10, h11, h11, h12, h12, h13, h13, h16, h16]
                  (repeat refine sd ?_)
                  refine hK _ _ fun nx => ?_; clear hK K; try clear kk
                  refine awp_ret ?_; refine nmx ?_
                  obtain hR := Option.some.inj hh
                  subst hR
                  exact ret_p2
                · rw [if_neg h16] at hh
                  replace h16 := Bool.eq_false_iff.mpr h16
                  refine awp_first fun K kk hK => ?_
                  simp only [go_sem, h10, h10, h11, h11, h12, h12, h13, h13, h16, h16]
                  (repeat refine sd ?_)
                  refine step_call2 (codec_Quote_ok _ _ h14) (by (try simp only [go_sem, h10, h10, h11, h11, h12, h12, h13, h13, h16, h16]) <;> exact wkl) (by rfl) (by rfl) ?_
                  simp only [go_sem, h10, h10, h11, h11, h12, h12, h13, h13, h16, h16]
                  (repeat refine sd ?_)
                  refine step_call2 (diptychref2_Quote_ok _ _ h15) (by (try simp only [go_sem, h10, h10, h11, h11, h12, h12, h13, h13, h16, h16]) <;> exact wkl) (by rfl) (by rfl) ?_
                  simp only [go_sem, h10, h10, h11, h11, h12, h12, h13, h13, h16, h16]
                  (repeat refine sd ?_)
                  refine hK _ _ fun nx => ?_; clear hK K; try clear kk
                  refine awp_ret ?_; refine nmx ?_
                  obtain hR := Option.some.inj hh
                  subst hR
                  exact ret_p2
              · rw [if_neg h13] at hh
                replace h13 := Bool.eq_false_iff.mpr h13
                refine awp_first fun K kk hK => ?_
                simp only [go_sem, h10, h10, h11, h11, h12, h12, h13, h13]
                (repeat refine sd ?_)
                refine hK _ _ fun nx => ?_; clear hK K; try clear kk
                refine awp_ret ?_; refine nmx ?_
                obtain hR := Option.some.inj hh
                subst hR
                exact ret_p2
            · rw [if_neg h12] at hh
              replace h12 := Bool.eq_false_iff.mpr h12
              refine awp_first fun K kk hK => ?_
              simp only [go_sem, h10, h10, h11, h11, h12, h12]
              (repeat refine sd ?_)
              refine hK _ _ fun nx => ?_; clear hK K; try clear kk
              refine awp_ret ?_; refine nmx ?_
              obtain hR := Option.some.inj hh
              subst hR
              exact ret_p2
          · rw [if_neg h11] at hh
            replace h11 := Bool.eq_false_iff.mpr h11
            refine awp_first fun K kk hK => ?_
            simp only [go_sem, h10, h10, h11, h11]
            (repeat refine sd ?_)
            refine hK _ _ fun nx => ?_; clear hK K; try clear kk
            refine awp_ret ?_; refine nmx ?_
            obtain hR := Option.some.inj hh
            subst hR
            exact ret_p2
        · rw [if_neg h10] at hh
          replace h10 := Bool.eq_false_iff.mpr h10
          refine awp_first fun K kk hK => ?_
          simp only [go_sem, h10, h10]
          (repeat refine sd ?_)
          refine hK _ _ fun nx => ?_; clear hK K; try clear kk
          refine awp_ret ?_; refine nmx ?_
          obtain hR := Option.some.inj hh
          subst hR
          exact ret_p2

end Go.Proofs.YtihndopckmdpbaaDoor
