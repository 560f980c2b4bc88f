/- What the functions answer, the program answers (1). -/
import Derived.Test.YtihndopckmdpbaaDoorAgC
import Derived.Test.YtihndopckmdpbaaDoorAgF
import Derived.Test.YtihndopckmdpbaaDoorAgK0
namespace Go.Proofs.YtihndopckmdpbaaDoor
set_option linter.unusedSimpArgs false
set_option linter.unusedVariables false
open Go
set_option maxRecDepth 100000

theorem diptychref2_Head_ok (n_1 : api_Node) (R : Str) (hh : diptychref2_Head n_1 = some R) : PC Tryd.prog 19 [.agg [.str n_1.Kind, .str n_1.Text, .list 1 (n_1.Marks.map PV.str), .list 2 (n_1.Attrs.map api_Attr.pv), .list 5 (n_1.Kids.map api_Node.pv)]] (.str R) := by
  rw [diptychref2_Head] at hh
  refine start_diptychref2_Head rfl ?_
  refine awp_first fun K kk hK => ?_
  simp only [go_sem]
  refine hK _ _ fun nx => ?_; clear hK K; try clear kk
  refine awp_first fun K kk hK => ?_
  simp only [go_sem]
  refine hK _ _ fun nx => ?_; clear hK K; try clear kk
  refine awp_seq ?_
  refine awp_first fun K kk hK => ?_
  simp only [go_sem]
  refine hK _ _ fun nx => ?_; clear hK K; try clear kk
  by_cases h1 : (n_1.Kind == ([116, 101, 120, 116] : Str)) = true
  · rw [if_pos h1] at hh
    refine awp_true (by first | exact congrArg PV.bool h1 | rfl) ?_
    refine awp_seq ?_
    refine awp_first fun K kk hK => ?_
    simp only [go_sem]
    refine hK _ _ fun nx => ?_; clear hK K; try clear kk
    obtain ⟨e0, f0, hh⟩ := bind_ex hh
    obtain ⟨hlen0, f0⟩ := chk_some f0
    refine awp_fragE (CutTo (fun s => ∃ s_9, s_9 = e0 ∧ ∃ (i_10 : Int) (v_11 : Bool) (nx : Nat) (g1 : Nat), s = ⟨[(1, .box 1 g1 0), (3, .str s_9), (4, .int .i64 i_10), (13, .bool v_11)], [(1, g1, .var 26 [.str n_1.Kind, .str n_1.Text, .list 1 (n_1.Marks.map PV.str), .list 2 (n_1.Attrs.map api_Attr.pv), .list 5 (n_1.Kids.map api_Node.pv)])], nx⟩))
      (fun i s => False)
      (fun s => False) ?_ ?_ ?_ ?_
    · refine awp_block ?_
      refine awp_loopJ fun I hI => ?_
      have key : ∀ (suf pre : List Str) (i_5 : Int) (s_4 : Str), n_1.Marks = pre ++ suf → i_5 = (pre.length : Int) → diptychref2_Head_l0 suf i_5 s_4 = some e0 → ∀ (nx : Nat) (g1 : Nat), I ⟨[(1, .box 1 g1 0), (3, .str s_4), (4, .int .i64 i_5)], [(1, g1, .var 26 [.str n_1.Kind, .str n_1.Text, .list 1 (n_1.Marks.map PV.str), .list 2 (n_1.Attrs.map api_Attr.pv), .list 5 (n_1.Kids.map api_Node.pv)])], nx⟩ := by
        intro suf
        induction suf with
        | nil =>
          intro pre i_5 s_4 hsplit hidx hh nx g1
          rw [diptychref2_Head_l0] at hh
          refine hI _ ?_
          have h16 := walk_nil hsplit hidx
          refine awp_seq ?_
          refine awp_first fun K kk hK => ?_
          simp only [go_sem]
          refine hK _ _ fun nx => ?_; clear hK K; try clear kk
          refine awp_false (by first | exact congrArg PV.bool h16 | rfl) ?_
          refine awp_exit ?_; refine nmx ?_
          refine fragN ?_
          refine cut_id ?_
          refine ⟨_, (Option.some.inj hh), ?_⟩
          first | exact ⟨_, _, _, _, rfl⟩ | (simp only [api_Attr.pv_eq, api_Node.pv_eq, codec_reader.pv_eq, diptychref2_Reader.pv_eq, pvL, List.map_cons, List.map_nil, List.map_append, rune1]; exact ⟨_, _, _, _, rfl⟩) | (simp only [api_Attr.pv_eq, api_Node.pv_eq, codec_reader.pv_eq, diptychref2_Reader.pv_eq, pvL, List.map_cons, List.map_nil, List.map_append, rune1, h1, h16]; exact ⟨_, _, _, _, rfl⟩)
        | cons y_8 suf ih =>
          intro pre i_5 s_4 hsplit hidx hh nx g1
          rw [diptychref2_Head_l0] at hh
          refine hI _ ?_
          obtain ⟨hl0a, hl0b, hl0d, hl0w, h16⟩ := walk_cons (f := PV.str) hsplit hidx hlen0
          refine awp_seq ?_
          refine awp_first fun K kk hK => ?_
          simp only [go_sem]
          refine hK _ _ fun nx => ?_; clear hK K; try clear kk
          refine awp_true (by first | exact congrArg PV.bool h16 | rfl) ?_
          refine awp_skip ?_; refine nmx ?_
          refine awp_seq ?_
          refine awp_block ?_
          refine awp_seq ?_
          refine awp_first fun K kk hK => ?_
          simp only [go_sem, hl0a, hl0b, hl0d, hl0w]
          refine hK _ _ fun nx => ?_; clear hK K; try clear kk
          by_cases h17 : (decide (i_5 > (0 : Int))) = true
          · rw [if_pos h17] at hh
            refine awp_true (by first | exact congrArg PV.bool h17 | rfl) ?_
            obtain ⟨h18, hh⟩ := chk_some hh
            refine awp_region fun K kk hK => ?_
            simp only [go_sem, h18, hl0a, hl0b, hl0d, hl0w]
            (repeat refine sd ?_)
            refine hK _ _ fun nx => ?_; clear hK K; try clear kk
            refine nmx ?_
            obtain ⟨h19, hh⟩ := chk_some hh
            refine awp_region fun K kk hK => ?_
            simp only [go_sem, h19, hl0a, hl0b, hl0d, hl0w]
            (repeat refine sd ?_)
            refine hK _ _ fun nx => ?_; clear hK K; try clear kk
            refine nmx ?_
            refine awp_region fun K kk hK => ?_
            simp only [go_sem, hl0a, hl0b, hl0d, hl0w]
            refine hK _ _ fun nx => ?_; clear hK K; try clear kk
            refine nmx ?_
            have ih' := ih (pre ++ [y_8]) (i_5 + 1) _ (by rw [hsplit]; simp) (by simp [hidx]) hh nx
            refine cut_id ?_
            first | exact ih' _ | (simp only [api_Attr.pv_eq, api_Node.pv_eq, codec_reader.pv_eq, diptychref2_Reader.pv_eq, pvL, List.map_cons, List.map_nil, List.map_append, rune1] at ih' ⊢; exact ih' _) | (simp only [api_Attr.pv_eq, api_Node.pv_eq, codec_reader.pv_eq, diptychref2_Reader.pv_eq, pvL, List.map_cons, List.map_nil, List.map_append, rune1, h1, h16, h17] at ih' ⊢; exact ih' _)
          · rw [if_neg h17] at hh
            replace h17 := Bool.eq_false_iff.mpr h17
            refine awp_false (by first | exact congrArg PV.bool h17 | rfl) ?_
            refine awp_skip ?_; refine nmx ?_
            obtain ⟨h20, hh⟩ := chk_some hh
            refine awp_region fun K kk hK => ?_
            simp only [go_sem, h20, hl0a, hl0b, hl0d, hl0w]
            (repeat refine sd ?_)
            refine hK _ _ fun nx => ?_; clear hK K; try clear kk
            refine nmx ?_
            refine awp_region fun K kk hK => ?_
            simp only [go_sem, hl0a, hl0b, hl0d, hl0w]
            refine hK _ _ fun nx => ?_; clear hK K; try clear kk
            refine nmx ?_
            have ih' := ih (pre ++ [y_8]) (i_5 + 1) _ (by rw [hsplit]; simp) (by simp [hidx]) hh nx
            refine cut_id ?_
            first | exact ih' _ | (simp only [api_Attr.pv_eq, api_Node.pv_eq, codec_reader.pv_eq, diptychref2_Reader.pv_eq, pvL, List.map_cons, List.map_nil, List.map_append, rune1] at ih' ⊢; exact ih' _) | (simp only [api_Attr.pv_eq, api_Node.pv_eq, codec_reader.pv_eq, diptychref2_Reader.pv_eq, pvL, List.map_cons, List.map_nil, List.map_append, rune1, h1, h16, h17] at ih' ⊢; exact ih' _)
      exact key n_1.Marks [] _ _ rfl rfl f0 _ _
    · rintro s ⟨t, hless, s_9, rfl, i_10, v_11, nx, g1, rfl⟩
      try dsimp only at hh
      refine nmy ?_
      first | (refine cut_less hless ?_; try refine cut_awp ?_) | refine frag_less hless ?_ | refine body_less hless ?_
      refine awp_seq ?_
      refine awp_first fun K kk hK => ?_
      simp only [go_sem]
      refine hK _ _ fun nx => ?_; clear hK K; try clear kk
      by_cases h21 : (decide ((n_1.Marks.length : Int) > (0 : Int))) = true
      · rw [if_pos h21] at hh
        refine awp_true (by first | exact congrArg PV.bool h21 | rfl) ?_
        obtain ⟨h22, hh⟩ := chk_some hh
        obtain ⟨h23, hh⟩ := chk_some hh
        refine awp_region fun K kk hK => ?_
        simp only [go_sem, h22, h23]
        (repeat refine sd ?_)
        refine hK _ _ fun nx => ?_; clear hK K; try clear kk
        refine nmx ?_
        refine awp_first fun K kk hK => ?_
        simp only [go_sem]
        refine hK _ _ fun nx => ?_; clear hK K; try clear kk
        refine awp_ret ?_; refine nmx ?_
        obtain hR := Option.some.inj hh
        subst hR
        exact ret_p2
      · rw [if_neg h21] at hh
        replace h21 := Bool.eq_false_iff.mpr h21
        refine awp_false (by first | exact congrArg PV.bool h21 | rfl) ?_
        refine awp_skip ?_; refine nmx ?_
        refine awp_first fun K kk hK => ?_
        simp only [go_sem]
        refine hK _ _ fun nx => ?_; clear hK K; try clear kk
        refine awp_ret ?_; refine nmx ?_
        obtain hR := Option.some.inj hh
        subst hR
        exact ret_p2
    · intro i s h; exact h.elim
    · intro s h; exact h.elim
  · rw [if_neg h1] at hh
    replace h1 := Bool.eq_false_iff.mpr h1
    refine awp_false (by first | exact congrArg PV.bool h1 | rfl) ?_
    refine awp_skip ?_; refine nmx ?_
    refine awp_seq ?_
    refine awp_first fun K kk hK => ?_
    simp only [go_sem]
    refine hK _ _ fun nx => ?_; clear hK K; try clear kk
    obtain ⟨e1, f1, hh⟩ := bind_ex hh
    obtain ⟨hlen1, f1⟩ := chk_some f1
    refine awp_fragE (CutTo (fun s => ∃ s_25, s_25 = e1 ∧ ∃ (i_26 : Int) (v_27 : Bool) (nx : Nat) (g1 : Nat), s = ⟨[(1, .box 1 g1 0), (3, .str s_25), (5, .int .i64 i_26), (39, .bool v_27)], [(1, g1, .var 26 [.str n_1.Kind, .str n_1.Text, .list 1 (n_1.Marks.map PV.str), .list 2 (n_1.Attrs.map api_Attr.pv), .list 5 (n_1.Kids.map api_Node.pv)])], nx⟩))
      (fun i s => False)
      (fun s => False) ?_ ?_ ?_ ?_
    · refine awp_block ?_
      refine awp_loopJ fun I hI => ?_
      have key : ∀ (suf pre : List api_Attr) (i_17 : Int) (s_16 : Str), n_1.Attrs = pre ++ suf → i_17 = (pre.length : Int) → diptychref2_Head_l1 suf i_17 s_16 = some e1 → ∀ (nx : Nat) (g1 : Nat), I ⟨[(1, .box 1 g1 0), (3, .str s_16), (5, .int .i64 i_17)], [(1, g1, .var 26 [.str n_1.Kind, .str n_1.Text, .list 1 (n_1.Marks.map PV.str), .list 2 (n_1.Attrs.map api_Attr.pv), .list 5 (n_1.Kids.map api_Node.pv)])], nx⟩ := by
        intro suf
        induction suf with
        | nil =>
          intro pre i_17 s_16 hsplit hidx hh nx g1
          rw [diptychref2_Head_l1] at hh
          refine hI _ ?_
          have h50 := walk_nil hsplit hidx
          refine awp_seq ?_
          refine awp_first fun K kk hK => ?_
          simp only [go_sem]
          refine hK _ _ fun nx => ?_; clear hK K; try clear kk
          refine awp_false (by first | exact congrArg PV.bool h50 | rfl) ?_
          refine awp_exit ?_; refine nmx ?_
          refine fragN ?_
          refine cut_id ?_
          refine ⟨_, (Option.some.inj hh), ?_⟩
          first | exact ⟨_, _, _, _, rfl⟩ | (simp only [api_Attr.pv_eq, api_Node.pv_eq, codec_reader.pv_eq, diptychref2_Reader.pv_eq, pvL, List.map_cons, List.map_nil, List.map_append, rune1]; exact ⟨_, _, _, _, rfl⟩) | (simp only [api_Attr.pv_eq, api_Node.pv_eq, codec_reader.pv_eq, diptychref2_Reader.pv_eq, pvL, List.map_cons, List.map_nil, List.map_append, rune1, h1, h50]; exact ⟨_, _, _, _, rfl⟩)
        | cons y_22 suf ih =>
          intro pre i_17 s_16 hsplit hidx hh nx g1
          rw [diptychref2_Head_l1] at hh
          refine hI _ ?_
          obtain ⟨hl1a, hl1b, hl1d, hl1w, h50⟩ := walk_cons (f := api_Attr.pv) hsplit hidx hlen1
          refine awp_seq ?_
          refine awp_first fun K kk hK => ?_
          simp only [go_sem]
          refine hK _ _ fun nx => ?_; clear hK K; try clear kk
          refine awp_true (by first | exact congrArg PV.bool h50 | rfl) ?_
          refine awp_skip ?_; refine nmx ?_
          refine awp_seq ?_
          refine awp_block ?_
          refine awp_seq ?_
          refine awp_first fun K kk hK => ?_
          simp only [go_sem, hl1a, hl1b, hl1d, hl1w]
          refine hK _ _ fun nx => ?_; clear hK K; try clear kk
          by_cases h51 : (decide (i_17 > (0 : Int))) = true
          · rw [if_pos h51] at hh
            refine awp_true (by first | exact congrArg PV.bool h51 | rfl) ?_
            obtain ⟨h52, hh⟩ := chk_some hh
            refine awp_region fun K kk hK => ?_
            simp only [go_sem, h52, hl1a, hl1b, hl1d, hl1w]
            (repeat refine sd ?_)
            refine hK _ _ fun nx => ?_; clear hK K; try clear kk
            refine nmx ?_
            obtain ⟨h53, hh⟩ := chk_some hh
            obtain ⟨h54, hh⟩ := chk_some hh
            obtain ⟨quote_23, h55, hh⟩ := bind_ex hh
            obtain ⟨h56, hh⟩ := chk_some hh
            refine awp_region fun K kk hK => ?_
            simp only [go_sem, h53, h54, h56, hl1a, hl1b, hl1d, hl1w]
            (repeat refine sd ?_)
            refine step_call2 (diptychref2_Quote_ok _ _ h55) (by (try simp only [go_sem, h53, h54, h56, hl1a, hl1b, hl1d, hl1w]) <;> exact wkl) (by rfl) (by rfl) ?_
            simp only [go_sem, h53, h54, h56, hl1a, hl1b, hl1d, hl1w]
            (repeat refine sd ?_)
            refine hK _ _ fun nx => ?_; clear hK K; try clear kk
            refine nmx ?_
            refine awp_region fun K kk hK => ?_
            simp only [go_sem, hl1a, hl1b, hl1d, hl1w]
            refine hK _ _ fun nx => ?_; clear hK K; try clear kk
            refine nmx ?_
            have ih' := ih (pre ++ [y_22]) (i_17 + 1) _ (by rw [hsplit]; simp) (by simp [hidx]) hh nx
            refine cut_id ?_
            first | exact ih' _ | (simp only [api_Attr.pv_eq, api_Node.pv_eq, codec_reader.pv_eq, diptychref2_Reader.pv_eq, pvL, List.map_cons, List.map_nil, List.map_append, rune1] at ih' ⊢; exact ih' _) | (simp only [api_Attr.pv_eq, api_Node.pv_eq, codec_reader.pv_eq, diptychref2_Reader.pv_eq, pvL, List.map_cons, List.map_nil, List.map_append, rune1, h1, h50, h51] at ih' ⊢; exact ih' _)
          · rw [if_neg h51] at hh
            replace h51 := Bool.eq_false_iff.mpr h51
            refine awp_false (by first | exact congrArg PV.bool h51 | rfl) ?_
            refine awp_skip ?_; refine nmx ?_
            obtain ⟨h57, hh⟩ := chk_some hh
            obtain ⟨h58, hh⟩ := chk_some hh
            obtain ⟨quote_24, h59, hh⟩ := bind_ex hh
            obtain ⟨h60, hh⟩ := chk_some hh
            refine awp_region fun K kk hK => ?_
            simp only [go_sem, h57, h58, h60, hl1a, hl1b, hl1d, hl1w]
            (repeat refine sd ?_)
            refine step_call2 (diptychref2_Quote_ok _ _ h59) (by (try simp only [go_sem, h57, h58, h60, hl1a, hl1b, hl1d, hl1w]) <;> exact wkl) (by rfl) (by rfl) ?_
            simp only [go_sem, h57, h58, h60, hl1a, hl1b, hl1d, hl1w]
            (repeat refine sd ?_)
            refine hK _ _ fun nx => ?_; clear hK K; try clear kk
            refine nmx ?_
            refine awp_region fun K kk hK => ?_
            simp only [go_sem, hl1a, hl1b, hl1d, hl1w]
            refine hK _ _ fun nx => ?_; clear hK K; try clear kk
            refine nmx ?_
            have ih' := ih (pre ++ [y_22]) (i_17 + 1) _ (by rw [hsplit]; simp) (by simp [hidx]) hh nx
            refine cut_id ?_
            first | exact ih' _ | (simp only [api_Attr.pv_eq, api_Node.pv_eq, codec_reader.pv_eq, diptychref2_Reader.pv_eq, pvL, List.map_cons, List.map_nil, List.map_append, rune1] at ih' ⊢; exact ih' _) | (simp only [api_Attr.pv_eq, api_Node.pv_eq, codec_reader.pv_eq, diptychref2_Reader.pv_eq, pvL, List.map_cons, List.map_nil, List.map_append, rune1, h1, h50, h51] at ih' ⊢; exact ih' _)
      exact key n_1.Attrs [] _ _ rfl rfl f1 _ _
    · rintro s ⟨t, hless, s_25, rfl, i_26, v_27, nx, g1, rfl⟩
      try dsimp only at hh
      refine nmy ?_
      first | (refine cut_less hless ?_; try refine cut_awp ?_) | refine frag_less hless ?_ | refine body_less hless ?_
      refine awp_seq ?_
      refine awp_first fun K kk hK => ?_
      simp only [go_sem]
      refine hK _ _ fun nx => ?_; clear hK K; try clear kk
      by_cases h61 : (decide ((n_1.Attrs.length : Int) > (0 : Int))) = true
      · rw [if_pos h61] at hh
        refine awp_true (by first | exact congrArg PV.bool h61 | rfl) ?_
        obtain ⟨h62, hh⟩ := chk_some hh
        obtain ⟨h63, hh⟩ := chk_some hh
        refine awp_region fun K kk hK => ?_
        simp only [go_sem, h62, h63]
        (repeat refine sd ?_)
        refine hK _ _ fun nx => ?_; clear hK K; try clear kk
        refine nmx ?_
        obtain ⟨h64, hh⟩ := chk_some hh
        refine awp_first fun K kk hK => ?_
        simp only [go_sem, h64]
        (repeat refine sd ?_)
        refine hK _ _ fun nx => ?_; clear hK K; try clear kk
        refine awp_ret ?_; refine nmx ?_
        obtain hR := Option.some.inj hh
        subst hR
        exact ret_p2
      · rw [if_neg h61] at hh
        replace h61 := Bool.eq_false_iff.mpr h61
        refine awp_false (by first | exact congrArg PV.bool h61 | rfl) ?_
        refine awp_skip ?_; refine nmx ?_
        obtain ⟨h65, hh⟩ := chk_some hh
        refine awp_first fun K kk hK => ?_
        simp only [go_sem, h65]
        (repeat refine sd ?_)
        refine hK _ _ fun nx => ?_; clear hK K; try clear kk
        refine awp_ret ?_; refine nmx ?_
        obtain hR := Option.some.inj hh
        subst hR
        exact ret_p2
    · intro i s h; exact h.elim
    · intro s h; exact h.elim
theorem diptychref2_WriteAll_grp : ∀ kr : Nat, (∀ (l_1 : (List api_Node)) (R : Str), diptychref2_WriteAll_k kr l_1 = some R → PC Tryd.prog 37 [.list 5 (l_1.map api_Node.pv)] (.str R)) ∧
    (∀ (n_1 : api_Node) (R : Str), diptychref2_Write_k kr n_1 = some R → PC Tryd.prog 36 [.agg [.str n_1.Kind, .str n_1.Text, .list 1 (n_1.Marks.map PV.str), .list 2 (n_1.Attrs.map api_Attr.pv), .list 5 (n_1.Kids.map api_Node.pv)]] (.str R)) := by
  intro kr
  induction kr with
  | zero => exact ⟨(by intro l_1 R hh; rw [diptychref2_WriteAll_k] at hh; cases hh), (by intro n_1 R hh; rw [diptychref2_Write_k] at hh; cases hh)⟩
  | succ kr ih =>
    obtain ⟨ih_diptychref2_WriteAll, ih_diptychref2_Write⟩ := ih
    refine ⟨?_, ?_⟩
    · intro l_1 R hh
      rw [diptychref2_WriteAll_k] at hh
      refine start_diptychref2_WriteAll rfl ?_
      refine awp_first fun K kk hK => ?_
      simp only [go_sem]
      refine hK _ _ fun nx => ?_; clear hK K; try clear kk
      refine awp_first fun K kk hK => ?_
      simp only [go_sem]
      refine hK _ _ fun nx => ?_; clear hK K; try clear kk
      refine awp_seq ?_
      refine awp_first fun K kk hK => ?_
      simp only [go_sem]
      refine hK _ _ fun nx => ?_; clear hK K; try clear kk
      obtain ⟨e0, f0, hh⟩ := bind_ex hh
      obtain ⟨hlen0, f0⟩ := chk_some f0
      refine awp_fragE (CutTo (fun s => ∃ s_10, s_10 = e0 ∧ ∃ (i_11 : Int) (v_12 : Bool) (nx : Nat), s = ⟨[(0, .list 5 (l_1.map api_Node.pv)), (3, .str s_10), (4, .int .i64 i_11), (8, .bool v_12)], [], nx⟩))
        (fun i s => False)
        (fun s => False) ?_ ?_ ?_ ?_
      · refine awp_block ?_
        refine awp_loopJ fun I hI => ?_
        have key : ∀ (suf pre : List api_Node) (i_5 : Int) (s_4 : Str), l_1 = pre ++ suf → i_5 = (pre.length : Int) → diptychref2_WriteAll_l0 (diptychref2_Write_k kr) suf i_5 s_4 = some e0 → ∀ (nx : Nat), I ⟨[(0, .list 5 (l_1.map api_Node.pv)), (3, .str s_4), (4, .int .i64 i_5)], [], nx⟩ := by
          intro suf
          induction suf with
          | nil =>
            intro pre i_5 s_4 hsplit hidx hh nx
            rw [diptychref2_WriteAll_l0] at hh
            refine hI _ ?_
            have h9 := walk_nil hsplit hidx
            refine awp_seq ?_
            refine awp_first fun K kk hK => ?_
            simp only [go_sem]
            refine hK _ _ fun nx => ?_; clear hK K; try clear kk
            refine awp_false (by first | exact congrArg PV.bool h9 | rfl) ?_
            refine awp_exit ?_; refine nmx ?_
            refine fragN ?_
            refine cut_id ?_
            refine ⟨_, (Option.some.inj hh), ?_⟩
            first | exact ⟨_, _, _, rfl⟩ | (simp only [api_Attr.pv_eq, api_Node.pv_eq, codec_reader.pv_eq, diptychref2_Reader.pv_eq, pvL, List.map_cons, List.map_nil, List.map_append, rune1]; exact ⟨_, _, _, rfl⟩) | (simp only [api_Attr.pv_eq, api_Node.pv_eq, codec_reader.pv_eq, diptychref2_Reader.pv_eq, pvL, List.map_cons, List.map_nil, List.map_append, rune1, h9]; exact ⟨_, _, _, rfl⟩)
          | cons y_8 suf ih =>
            intro pre i_5 s_4 hsplit hidx hh nx
            rw [diptychref2_WriteAll_l0] at hh
            refine hI _ ?_
            obtain ⟨hl0a, hl0b, hl0d, hl0w, h9⟩ := walk_cons (f := api_Node.pv) hsplit hidx hlen0
            refine awp_seq ?_
            refine awp_first fun K kk hK => ?_
            simp only [go_sem]
            refine hK _ _ fun nx => ?_; clear hK K; try clear kk
            refine awp_true (by first | exact congrArg PV.bool h9 | rfl) ?_
            refine awp_skip ?_; refine nmx ?_
            refine awp_seq ?_
            refine awp_block ?_
            obtain ⟨write_9, h10, hh⟩ := bind_ex hh
            obtain ⟨h11, hh⟩ := chk_some hh
            refine awp_region fun K kk hK => ?_
            simp only [go_sem, h11, hl0a, hl0b, hl0d, hl0w]
            (repeat refine sd ?_)
            refine step_call2 (ih_diptychref2_Write _ _ h10) (by (try simp only [go_sem, h11, hl0a, hl0b, hl0d, hl0w]) <;> exact wkl) (by rfl) (by rfl) ?_
            simp only [go_sem, h11, hl0a, hl0b, hl0d, hl0w]
            (repeat refine sd ?_)
            refine hK _ _ fun nx => ?_; clear hK K; try clear kk
            refine nmx ?_
            refine awp_region fun K kk hK => ?_
            simp only [go_sem, hl0a, hl0b, hl0d, hl0w]
            refine hK _ _ fun nx => ?_; clear hK K; try clear kk
            refine nmx ?_
            have ih' := ih (pre ++ [y_8]) (i_5 + 1) _ (by rw [hsplit]; simp) (by simp [hidx]) hh nx
            refine cut_id ?_
            first | exact ih' | (simp only [api_Attr.pv_eq, api_Node.pv_eq, codec_reader.pv_eq, diptychref2_Reader.pv_eq, pvL, List.map_cons, List.map_nil, List.map_append, rune1] at ih' ⊢; exact ih') | (simp only [api_Attr.pv_eq, api_Node.pv_eq, codec_reader.pv_eq, diptychref2_Reader.pv_eq, pvL, List.map_cons, List.map_nil, List.map_append, rune1, h9] at ih' ⊢; exact ih')
        exact key l_1 [] _ _ rfl rfl f0 _
      · rintro s ⟨t, hless, s_10, rfl, i_11, v_12, nx, rfl⟩
        try dsimp only at hh
        refine nmy ?_
        first | (refine cut_less hless ?_; try refine cut_awp ?_) | refine frag_less hless ?_ | refine body_less hless ?_
        refine awp_first fun K kk hK => ?_
        simp only [go_sem]
        refine hK _ _ fun nx => ?_; clear hK K; try clear kk
        refine awp_ret ?_; refine nmx ?_
        obtain hR := Option.some.inj hh
        subst hR
        exact ret_p2
      · intro i s h; exact h.elim
      · intro s h; exact h.elim
    · intro n_1 R hh
      rw [diptychref2_Write_k] at hh
      refine start_diptychref2_Write rfl ?_
      refine awp_first fun K kk hK => ?_
      simp only [go_sem]
      refine hK _ _ fun nx => ?_; clear hK K; try clear kk
      refine awp_seq ?_
      refine awp_first fun K kk hK => ?_
      simp only [go_sem]
      refine hK _ _ fun nx => ?_; clear hK K; try clear kk
      by_cases h1 : (n_1.Kind == ([116, 101, 120, 116] : Str)) = true
      · rw [if_pos h1] at hh
        refine awp_true (by first | exact congrArg PV.bool h1 | rfl) ?_
        obtain ⟨quote_2, h2, hh⟩ := bind_ex hh
        obtain ⟨head_3, h3, hh⟩ := bind_ex hh
        obtain ⟨h4, hh⟩ := chk_some hh
        refine awp_first fun K kk hK => ?_
        simp only [go_sem, h4]
        (repeat refine sd ?_)
        refine step_call2 (diptychref2_Quote_ok _ _ h2) (by (try simp only [go_sem, h4]) <;> exact wkl) (by rfl) (by rfl) ?_
        simp only [go_sem, h4]
        (repeat refine sd ?_)
        refine step_call2 (diptychref2_Head_ok _ _ h3) (by (try simp only [go_sem, h4]) <;> exact wkl) (by rfl) (by rfl) ?_
        simp only [go_sem, h4]
        (repeat refine sd ?_)
        refine hK _ _ fun nx => ?_; clear hK K; try clear kk
        refine awp_ret ?_; refine nmx ?_
        obtain hR := Option.some.inj hh
        subst hR
        exact ret_p2
      · rw [if_neg h1] at hh
        replace h1 := Bool.eq_false_iff.mpr h1
        refine awp_false (by first | exact congrArg PV.bool h1 | rfl) ?_
        refine awp_skip ?_; refine nmx ?_
        obtain ⟨head_4, h5, hh⟩ := bind_ex hh
        obtain ⟨h6, hh⟩ := chk_some hh
        obtain ⟨writea_5, h7, hh⟩ := bind_ex hh
        obtain ⟨h8, hh⟩ := chk_some hh
        obtain ⟨h9, hh⟩ := chk_some hh
        refine awp_first fun K kk hK => ?_
        simp only [go_sem, h6, h8, h9]
        (repeat refine sd ?_)
        refine step_call2 (diptychref2_Head_ok _ _ h5) (by (try simp only [go_sem, h6, h8, h9]) <;> exact wkl) (by rfl) (by rfl) ?_
        simp only [go_sem, h6, h8, h9]
        (repeat refine sd ?_)
        refine step_call2 (ih_diptychref2_WriteAll _ _ h7) (by (try simp only [go_sem, h6, h8, h9]) <;> exact wkl) (by rfl) (by rfl) ?_
        simp only [go_sem, h6, h8, h9]
        (repeat refine sd ?_)
        refine hK _ _ fun nx => ?_; clear hK K; try clear kk
        refine awp_ret ?_; refine nmx ?_
        obtain hR := Option.some.inj hh
        subst hR
        exact ret_p2
theorem diptychref2_WriteAll_ok (l_1 : (List api_Node)) (R : Str) (hh : diptychref2_WriteAll l_1 = some R) : PC Tryd.prog 37 [.list 5 (l_1.map api_Node.pv)] (.str R) := by
  rw [diptychref2_WriteAll] at hh
  obtain ⟨kr, hh⟩ := lim_some hh
  exact (diptychref2_WriteAll_grp kr).1 _ _ hh
theorem diptychref2_Write_ok (n_1 : api_Node) (R : Str) (hh : diptychref2_Write n_1 = some R) : PC Tryd.prog 36 [.agg [.str n_1.Kind, .str n_1.Text, .list 1 (n_1.Marks.map PV.str), .list 2 (n_1.Attrs.map api_Attr.pv), .list 5 (n_1.Kids.map api_Node.pv)]] (.str R) := by
  rw [diptychref2_Write] at hh
  obtain ⟨kr, hh⟩ := lim_some hh
  exact (diptychref2_WriteAll_grp kr).2 _ _ hh
theorem diptychref2_Reader_is_x_ok (c_1 : Int) (reader_2 : diptychref2_Reader) (R : (Bool × diptychref2_Reader)) (hh : diptychref2_Reader_is_x c_1 reader_2 = some R) : BC Tryd.prog 85 [.box 1000 0 0, .int .u8 c_1] [.var 75 [.str reader_2.S, .int .i64 reader_2.At, .bool reader_2.Bad]] (.bool R.1) [.var 75 [.str R.2.S, .int .i64 R.2.At, .bool R.2.Bad]] := by
  rw [diptychref2_Reader_is_x] at hh
  refine start_diptychref2_Reader_is_x rfl rfl rfl ?_
  refine awp_first fun K kk hK => ?_
  simp only [go_sem]
  refine hK _ _ fun nx => ?_; clear hK K; try clear kk
  by_cases h1 : (decide (reader_2.At < (reader_2.S.length : Int))) = true
  · rw [if_pos h1] at hh
    obtain ⟨h2, hh⟩ := chk_some hh
    refine awp_first fun K kk hK => ?_
    simp only [go_sem, h1, of_decide_eq_true h1, h2.1, h2.2, h1, of_decide_eq_true h1]
    (repeat refine sd ?_)
    refine hK _ _ fun nx => ?_; clear hK K; try clear kk
    refine awp_ret ?_; refine nmx ?_
    obtain hR := Option.some.inj hh
    subst hR
    refine ret_pureB ?_ (by rfl) ?_
    · simp only [go_sem, rvsRes, rvRes, cellRes, tupOf, pur2, List.map_cons, List.map_append, List.head?_cons, h1]
      all_goals exact wkw
    · (try simp only [go_sem, h1]); (try simp only [List.length_append, List.map_append]); all_goals exact wkb
  · rw [if_neg h1] at hh
    replace h1 := Bool.eq_false_iff.mpr h1
    refine awp_first fun K kk hK => ?_
    simp only [go_sem, h1, of_decide_eq_false h1, h1, of_decide_eq_false h1]
    (repeat refine sd ?_)
    refine hK _ _ fun nx => ?_; clear hK K; try clear kk
    refine awp_ret ?_; refine nmx ?_
    obtain hR := Option.some.inj hh
    subst hR
    refine ret_pureB ?_ (by rfl) ?_
    · simp only [go_sem, rvsRes, rvRes, cellRes, tupOf, pur2, List.map_cons, List.map_append, List.head?_cons, h1]
      all_goals exact wkw
    · (try simp only [go_sem, h1]); (try simp only [List.length_append, List.map_append]); all_goals exact wkb
theorem diptychref2_Reader_eat_x_ok (c_1 : Int) (reader_2 : diptychref2_Reader) (R : diptychref2_Reader) (hh : diptychref2_Reader_eat_x c_1 reader_2 = some R) : BC Tryd.prog 87 [.box 1000 0 0, .int .u8 c_1] [.var 75 [.str reader_2.S, .int .i64 reader_2.At, .bool reader_2.Bad]] (.tup []) [.var 75 [.str R.S, .int .i64 R.At, .bool R.Bad]] := by
  rw [diptychref2_Reader_eat_x] at hh
  refine start_diptychref2_Reader_eat_x rfl rfl rfl ?_
  obtain ⟨⟨r_3, reader_4⟩, h1, hh⟩ := bind_ex hh
  dsimp only at hh
  refine awp_first fun K kk hK => ?_
  simp only [go_sem]
  refine step_callC [1000] (by decide) (diptychref2_Reader_is_x_ok _ _ _ h1) (by (try simp only [go_sem]) <;> exact wkb) (by rfl) ?_
  simp only [go_sem]
  refine hK _ _ fun nx => ?_; clear hK K; try clear kk
  by_cases h2 : (r_3) = true
  · rw [if_pos h2] at hh
    refine awp_true (by first | exact congrArg PV.bool h2 | rfl) ?_
    refine awp_region fun K kk hK => ?_
    simp only [go_sem]
    refine hK _ _ fun nx => ?_; clear hK K; try clear kk
    refine nmx ?_
    obtain hR := Option.some.inj hh
    subst hR
    refine body_end ?_
    refine ret_pureB ?_ (by rfl) ?_
    · simp only [go_sem, rvsRes, rvRes, cellRes, tupOf, pur2, List.map_cons, List.map_append, List.head?_cons, h2]
      all_goals exact wkw
    · (try simp only [go_sem, h2]); (try simp only [List.length_append, List.map_append]); all_goals exact wkb
  · rw [if_neg h2] at hh
    replace h2 := Bool.eq_false_iff.mpr h2
    refine awp_false (by first | exact congrArg PV.bool h2 | rfl) ?_
    refine awp_region fun K kk hK => ?_
    simp only [go_sem]
    refine hK _ _ fun nx => ?_; clear hK K; try clear kk
    refine nmx ?_
    obtain hR := Option.some.inj hh
    subst hR
    refine body_end ?_
    refine ret_pureB ?_ (by rfl) ?_
    · simp only [go_sem, rvsRes, rvRes, cellRes, tupOf, pur2, List.map_cons, List.map_append, List.head?_cons, h2]
      all_goals exact wkw
    · (try simp only [go_sem, h2]); (try simp only [List.length_append, List.map_append]); all_goals exact wkb
theorem diptychref2_Reader_quoted_x_ok (reader_1 : diptychref2_Reader) (R : (Str × diptychref2_Reader)) (hh : diptychref2_Reader_quoted_x reader_1 = some R) : BC Tryd.prog 86 [.box 1000 0 0] [.var 75 [.str reader_1.S, .int .i64 reader_1.At, .bool reader_1.Bad]] (.str R.1) [.var 75 [.str R.2.S, .int .i64 R.2.At, .bool R.2.Bad]] := by
  rw [diptychref2_Reader_quoted_x] at hh
  refine start_diptychref2_Reader_quoted_x rfl rfl rfl ?_
  refine awp_first fun K kk hK => ?_
  simp only [go_sem]
  refine hK _ _ fun nx => ?_; clear hK K; try clear kk
  refine awp_first fun K kk hK => ?_
  simp only [go_sem]
  refine hK _ _ fun nx => ?_; clear hK K; try clear kk
  obtain ⟨reader_2, h1, hh⟩ := bind_ex hh
  refine awp_first fun K kk hK => ?_
  simp only [go_sem]
  refine step_callC [1000] (by decide) (diptychref2_Reader_eat_x_ok _ _ _ h1) (by (try simp only [go_sem]) <;> exact wkb) (by rfl) ?_
  simp only [go_sem]
  refine hK _ _ fun nx => ?_; clear hK K; try clear kk
  refine awp_seq ?_
  obtain ⟨e0, f0, hh⟩ := bind_ex hh
  refine awp_frag (fun s => ∃ s_18, ∃ r_20, .inr (s_18, r_20) = e0 ∧ ∃ (v_19 : Bool) (nx : Nat), s = ⟨[(0, .box 1000 0 0), (3, .str s_18), (15, .bool v_19)], [(1000, 0, .var 75 [.str r_20.S, .int .i64 r_20.At, .bool r_20.Bad])], nx⟩)
    (fun i s => False)
    (fun s => ∃ res_17, .inl res_17 = e0 ∧ bodyR Tryd.prog [.tmp 2] (.str res_17.1) [.var 75 [.str res_17.2.S, .int .i64 res_17.2.At, .bool res_17.2.Bad]] .ret s) ?_ ?_ ?_ ?_
  · refine awp_block ?_
    refine awp_loopJ fun I hI => ?_
    obtain ⟨k, f0⟩ := lim_some f0
    have key : ∀ (k : Nat) (s_10 : Str) (r_9 : diptychref2_Reader), diptychref2_Reader_quoted_x_l0 k s_10 r_9 = some e0 → ∀ (nx : Nat), I ⟨[(0, .box 1000 0 0), (3, .str s_10)], [(1000, 0, .var 75 [.str r_9.S, .int .i64 r_9.At, .bool r_9.Bad])], nx⟩ := by
      intro k
      induction k with
      | zero => intro s_10 r_9 hh; rw [diptychref2_Reader_quoted_x_l0] at hh; cases hh
      | succ k ih =>
        intro s_10 r_9 hh nx
        rw [diptychref2_Reader_quoted_x_l0] at hh
        refine hI _ ?_
        refine awp_seq ?_
        by_cases h10 : (!r_9.Bad) = true
        · rw [if_pos h10] at hh
          obtain ⟨⟨r_11, reader_12⟩, h11, hh⟩ := bind_ex hh
          dsimp only at hh
          refine awp_first fun K kk hK => ?_
          simp only [go_sem, h10, h10]
          (repeat refine sd ?_)
          refine step_callC [1000] (by decide) (diptychref2_Reader_is_x_ok _ _ _ h11) (by (try simp only [go_sem, h10, h10, h10]) <;> exact wkb) (by rfl) ?_
          simp only [go_sem, h10, h10]
          (repeat refine sd ?_)
          refine hK _ _ fun nx => ?_; clear hK K; try clear kk
          by_cases h12 : (!r_11) = true
          · rw [if_pos h12] at hh
            refine awp_true (by first | exact congrArg PV.bool h12 | rfl) ?_
            refine awp_skip ?_; refine nmx ?_
            refine awp_block ?_
            refine awp_seq ?_
            obtain ⟨e2, f2, hh⟩ := bind_ex hh
            refine awp_frag (fun s => ∃ r_15, r_15 = e2 ∧ ∃ (nx : Nat), s = ⟨[(0, .box 1000 0 0), (3, .str s_10)], [(1000, 0, .var 75 [.str r_15.S, .int .i64 r_15.At, .bool r_15.Bad])], nx⟩)
              (fun i s => False)
              (fun s => False) ?_ ?_ ?_ ?_
            · have hh := f2
              obtain ⟨⟨r_13, reader_14⟩, h13, hh⟩ := bind_ex hh
              dsimp only at hh
              refine awp_first fun K kk hK => ?_
              simp only [go_sem]
              refine step_callC [1000] (by decide) (diptychref2_Reader_is_x_ok _ _ _ h13) (by (try simp only [go_sem, h10, h12]) <;> exact wkb) (by rfl) ?_
              simp only [go_sem]
              refine hK _ _ fun nx => ?_; clear hK K; try clear kk
              by_cases h14 : (r_13) = true
              · rw [if_pos h14] at hh
                refine awp_true (by first | exact congrArg PV.bool h14 | rfl) ?_
                refine awp_region fun K kk hK => ?_
                simp only [go_sem]
                refine hK _ _ fun nx => ?_; clear hK K; try clear kk
                refine nmx ?_
                refine fragN ?_
                refine cut_id ?_
                refine ⟨_, (Option.some.inj hh), ?_⟩
                first | exact ⟨_, rfl⟩ | (simp only [api_Attr.pv_eq, api_Node.pv_eq, codec_reader.pv_eq, diptychref2_Reader.pv_eq, pvL, List.map_cons, List.map_nil, List.map_append, rune1]; exact ⟨_, rfl⟩) | (simp only [api_Attr.pv_eq, api_Node.pv_eq, codec_reader.pv_eq, diptychref2_Reader.pv_eq, pvL, List.map_cons, List.map_nil, List.map_append, rune1, h10, h12, h14]; exact ⟨_, rfl⟩)
              · rw [if_neg h14] at hh
                replace h14 := Bool.eq_false_iff.mpr h14
                refine awp_false (by first | exact congrArg PV.bool h14 | rfl) ?_
                refine awp_skip ?_; refine nmx ?_
                refine fragN ?_
                refine cut_to (less_cut _ [0, 3] [1000]) ?_
                refine ⟨_, (Option.some.inj hh), ?_⟩
                first | exact ⟨_, rfl⟩ | (simp only [api_Attr.pv_eq, api_Node.pv_eq, codec_reader.pv_eq, diptychref2_Reader.pv_eq, pvL, List.map_cons, List.map_nil, List.map_append, rune1]; exact ⟨_, rfl⟩) | (simp only [api_Attr.pv_eq, api_Node.pv_eq, codec_reader.pv_eq, diptychref2_Reader.pv_eq, pvL, List.map_cons, List.map_nil, List.map_append, rune1, h10, h12, h14]; exact ⟨_, rfl⟩)
            · rintro s ⟨r_15, rfl, nx, rfl⟩
              try dsimp only at hh
              refine awp_seq ?_
              refine awp_first fun K kk hK => ?_
              simp only [go_sem]
              refine hK _ _ fun nx => ?_; clear hK K; try clear kk
              by_cases h15 : (decide (r_15.At ≥ (r_15.S.length : Int))) = true
              · rw [if_pos h15] at hh
                refine awp_true (by first | exact congrArg PV.bool h15 | rfl) ?_
                refine awp_first fun K kk hK => ?_
                simp only [go_sem]
                refine hK _ _ fun nx => ?_; clear hK K; try clear kk
                refine awp_first fun K kk hK => ?_
                simp only [go_sem]
                refine hK _ _ fun nx => ?_; clear hK K; try clear kk
                refine awp_ret ?_; refine nmx ?_
                refine fragR ⟨_, (Option.some.inj hh), ?_⟩
                refine ret_pureB ?_ (by rfl) ?_
                · simp only [go_sem, rvsRes, rvRes, cellRes, tupOf, pur2, List.map_cons, List.map_append, List.head?_cons, h10, h12, h15]
                  all_goals exact wkw
                · (try simp only [go_sem, h10, h12, h15]); (try simp only [List.length_append, List.map_append]); all_goals exact wkb
              · rw [if_neg h15] at hh
                replace h15 := Bool.eq_false_iff.mpr h15
                refine awp_false (by first | exact congrArg PV.bool h15 | rfl) ?_
                refine awp_skip ?_; refine nmx ?_
                obtain ⟨s_16, h16, hh⟩ := bind_ex hh
                obtain ⟨h16a, h16c⟩ := sl_some h16
                have h16g := sl_le h16a
                have h16d := id h16c
                try simp only [Int.toNat_natCast, Int.reduceToNat] at h16d
                obtain ⟨h17, hh⟩ := chk_some hh
                refine awp_first fun K kk hK => ?_
                simp only [go_sem, h16a.1, h16a.2.1, h16a.2.2, h16d, h16g, h17]
                (repeat refine sd ?_)
                refine hK _ _ fun nx => ?_; clear hK K; try clear kk
                refine awp_region fun K kk hK => ?_
                simp only [go_sem]
                refine hK _ _ fun nx => ?_; clear hK K; try clear kk
                refine nmx ?_
                have ih' := ih _ _ hh nx
                refine cut_id ?_
                first | exact ih' | (simp only [api_Attr.pv_eq, api_Node.pv_eq, codec_reader.pv_eq, diptychref2_Reader.pv_eq, pvL, List.map_cons, List.map_nil, List.map_append, rune1] at ih' ⊢; exact ih') | (simp only [api_Attr.pv_eq, api_Node.pv_eq, codec_reader.pv_eq, diptychref2_Reader.pv_eq, pvL, List.map_cons, List.map_nil, List.map_append, rune1, h10, h12, h15] at ih' ⊢; exact ih')
            · intro i s h; exact h.elim
            · intro s h; exact h.elim
          · rw [if_neg h12] at hh
            replace h12 := Bool.eq_false_iff.mpr h12
            refine awp_false (by first | exact congrArg PV.bool h12 | rfl) ?_
            refine awp_exit ?_; refine nmx ?_
            refine fragN ?_
            refine cut_id ?_
            refine ⟨_, _, (Option.some.inj hh), ?_⟩
            first | exact ⟨_, _, rfl⟩ | (simp only [api_Attr.pv_eq, api_Node.pv_eq, codec_reader.pv_eq, diptychref2_Reader.pv_eq, pvL, List.map_cons, List.map_nil, List.map_append, rune1]; exact ⟨_, _, rfl⟩) | (simp only [api_Attr.pv_eq, api_Node.pv_eq, codec_reader.pv_eq, diptychref2_Reader.pv_eq, pvL, List.map_cons, List.map_nil, List.map_append, rune1, h10, h12]; exact ⟨_, _, rfl⟩)
        · rw [if_neg h10] at hh
          replace h10 := Bool.eq_false_iff.mpr h10
          refine awp_first fun K kk hK => ?_
          simp only [go_sem, h10, h10]
          (repeat refine sd ?_)
          refine hK _ _ fun nx => ?_; clear hK K; try clear kk
          refine awp_false rfl ?_
          refine awp_exit ?_; refine nmx ?_
          refine fragN ?_
          refine cut_id ?_
          refine ⟨_, _, (Option.some.inj hh), ?_⟩
          first | exact ⟨_, _, rfl⟩ | (simp only [api_Attr.pv_eq, api_Node.pv_eq, codec_reader.pv_eq, diptychref2_Reader.pv_eq, pvL, List.map_cons, List.map_nil, List.map_append, rune1]; exact ⟨_, _, rfl⟩) | (simp only [api_Attr.pv_eq, api_Node.pv_eq, codec_reader.pv_eq, diptychref2_Reader.pv_eq, pvL, List.map_cons, List.map_nil, List.map_append, rune1, h10]; exact ⟨_, _, rfl⟩)
    exact key _ _ _ f0 _
  · rintro s ⟨s_18, r_20, rfl, v_19, nx, rfl⟩
    try dsimp only at hh
    obtain ⟨reader_21, h18, hh⟩ := bind_ex hh
    refine awp_first fun K kk hK => ?_
    simp only [go_sem]
    refine step_callC [1000] (by decide) (diptychref2_Reader_eat_x_ok _ _ _ h18) (by (try simp only [go_sem]) <;> exact wkb) (by rfl) ?_
    simp only [go_sem]
    refine hK _ _ fun nx => ?_; clear hK K; try clear kk
    refine awp_first fun K kk hK => ?_
    simp only [go_sem]
    refine hK _ _ fun nx => ?_; clear hK K; try clear kk
    refine awp_ret ?_; refine nmx ?_
    obtain hR := Option.some.inj hh
    subst hR
    refine ret_pureB ?_ (by rfl) ?_
    · simp only [go_sem, rvsRes, rvRes, cellRes, tupOf, pur2, List.map_cons, List.map_append, List.head?_cons]
      all_goals exact wkw
    · (try simp only [go_sem]); (try simp only [List.length_append, List.map_append]); all_goals exact wkb
  · intro i s h; exact h.elim
  · rintro s ⟨res_17, rfl, hb⟩
    try dsimp only at hh
    obtain hR := Option.some.inj hh
    subst hR
    refine nmx ?_
    exact hb
theorem diptychref2_Reader_letters_x_ok (reader_1 : diptychref2_Reader) (R : (Str × diptychref2_Reader)) (hh : diptychref2_Reader_letters_x reader_1 = some R) : BC Tryd.prog 88 [.box 1000 0 0] [.var 75 [.str reader_1.S, .int .i64 reader_1.At, .bool reader_1.Bad]] (.str R.1) [.var 75 [.str R.2.S, .int .i64 R.2.At, .bool R.2.Bad]] := by
  rw [diptychref2_Reader_letters_x] at hh
  refine start_diptychref2_Reader_letters_x rfl rfl rfl ?_
  refine awp_first fun K kk hK => ?_
  simp only [go_sem]
  refine hK _ _ fun nx => ?_; clear hK K; try clear kk
  refine awp_first fun K kk hK => ?_
  simp only [go_sem]
  refine hK _ _ fun nx => ?_; clear hK K; try clear kk
  refine awp_seq ?_
  obtain ⟨e0, f0, hh⟩ := bind_ex hh
  refine awp_frag (fun s => ∃ r_4, r_4 = e0 ∧ ∃ (v_3 : Bool) (nx : Nat), s = ⟨[(0, .box 1000 0 0), (3, .int .i64 reader_1.At), (41, .bool v_3)], [(1000, 0, .var 75 [.str reader_1.S, .int .i64 r_4, .bool reader_1.Bad])], nx⟩)
    (fun i s => False)
    (fun s => False) ?_ ?_ ?_ ?_
  · refine awp_block ?_
    refine awp_loopJ fun I hI => ?_
    obtain ⟨k, f0⟩ := lim_some f0
    have key : ∀ (k : Nat) (r_2 : Int), diptychref2_Reader_letters_x_l0 reader_1 k r_2 = some e0 → ∀ (nx : Nat), I ⟨[(0, .box 1000 0 0), (3, .int .i64 reader_1.At)], [(1000, 0, .var 75 [.str reader_1.S, .int .i64 r_2, .bool reader_1.Bad])], nx⟩ := by
      intro k
      induction k with
      | zero => intro r_2 hh; rw [diptychref2_Reader_letters_x_l0] at hh; cases hh
      | succ k ih =>
        intro r_2 hh nx
        rw [diptychref2_Reader_letters_x_l0] at hh
        refine hI _ ?_
        refine awp_seq ?_
        by_cases h6 : (decide (r_2 < (reader_1.S.length : Int))) = true
        · rw [if_pos h6] at hh
          obtain ⟨h7, hh⟩ := chk_some hh
          by_cases h8 : (decide (((reader_1.S.getD r_2.toNat 0).toNat : Int) ≥ (97 : Int))) = true
          · rw [if_pos h8] at hh
            obtain ⟨h9, hh⟩ := chk_some hh
            refine awp_first fun K kk hK => ?_
            simp only [go_sem, h6, of_decide_eq_true h6, h7.1, h7.2, h6, of_decide_eq_true h6, h8, of_decide_eq_true h8, h9.1, h9.2, h8, of_decide_eq_true h8]
            (repeat refine sd ?_)
            refine hK _ _ fun nx => ?_; clear hK K; try clear kk
            by_cases h10 : (decide (((reader_1.S.getD r_2.toNat 0).toNat : Int) ≤ (122 : Int))) = true
            · rw [if_pos h10] at hh
              refine awp_true (by first | exact congrArg PV.bool h10 | rfl) ?_
              refine awp_skip ?_; refine nmx ?_
              refine awp_block ?_
              refine awp_region fun K kk hK => ?_
              simp only [go_sem]
              refine hK _ _ fun nx => ?_; clear hK K; try clear kk
              refine nmx ?_
              have ih' := ih _ hh nx
              refine cut_id ?_
              first | exact ih' | (simp only [api_Attr.pv_eq, api_Node.pv_eq, codec_reader.pv_eq, diptychref2_Reader.pv_eq, pvL, List.map_cons, List.map_nil, List.map_append, rune1] at ih' ⊢; exact ih') | (simp only [api_Attr.pv_eq, api_Node.pv_eq, codec_reader.pv_eq, diptychref2_Reader.pv_eq, pvL, List.map_cons, List.map_nil, List.map_append, rune1, h10, h6, h8] at ih' ⊢; exact ih')
            · rw [if_neg h10] at hh
              replace h10 := Bool.eq_false_iff.mpr h10
              refine awp_false (by first | exact congrArg PV.bool h10 | rfl) ?_
              refine awp_exit ?_; refine nmx ?_
              refine fragN ?_
              refine cut_id ?_
              refine ⟨_, (Option.some.inj hh), ?_⟩
              first | exact ⟨_, _, rfl⟩ | (simp only [api_Attr.pv_eq, api_Node.pv_eq, codec_reader.pv_eq, diptychref2_Reader.pv_eq, pvL, List.map_cons, List.map_nil, List.map_append, rune1]; exact ⟨_, _, rfl⟩) | (simp only [api_Attr.pv_eq, api_Node.pv_eq, codec_reader.pv_eq, diptychref2_Reader.pv_eq, pvL, List.map_cons, List.map_nil, List.map_append, rune1, h10, h6, h8]; exact ⟨_, _, rfl⟩)
          · rw [if_neg h8] at hh
            replace h8 := Bool.eq_false_iff.mpr h8
            refine awp_first fun K kk hK => ?_
            simp only [go_sem, h6, of_decide_eq_true h6, h7.1, h7.2, h6, of_decide_eq_true h6, h8, of_decide_eq_false h8, h8, of_decide_eq_false h8]
            (repeat refine sd ?_)
            refine hK _ _ fun nx => ?_; clear hK K; try clear kk
            refine awp_false rfl ?_
            refine awp_exit ?_; refine nmx ?_
            refine fragN ?_
            refine cut_id ?_
            refine ⟨_, (Option.some.inj hh), ?_⟩
            first | exact ⟨_, _, rfl⟩ | (simp only [api_Attr.pv_eq, api_Node.pv_eq, codec_reader.pv_eq, diptychref2_Reader.pv_eq, pvL, List.map_cons, List.map_nil, List.map_append, rune1]; exact ⟨_, _, rfl⟩) | (simp only [api_Attr.pv_eq, api_Node.pv_eq, codec_reader.pv_eq, diptychref2_Reader.pv_eq, pvL, List.map_cons, List.map_nil, List.map_append, rune1, h6, h8]; exact ⟨_, _, rfl⟩)
        · rw [if_neg h6] at hh
          replace h6 := Bool.eq_false_iff.mpr h6
          refine awp_first fun K kk hK => ?_
          simp only [go_sem, h6, of_decide_eq_false h6, h6, of_decide_eq_false h6]
          (repeat refine sd ?_)
          refine hK _ _ fun nx => ?_; clear hK K; try clear kk
          refine awp_false rfl ?_
          refine awp_exit ?_; refine nmx ?_
          refine fragN ?_
          refine cut_id ?_
          refine ⟨_, (Option.some.inj hh), ?_⟩
          first | exact ⟨_, _, rfl⟩ | (simp only [api_Attr.pv_eq, api_Node.pv_eq, codec_reader.pv_eq, diptychref2_Reader.pv_eq, pvL, List.map_cons, List.map_nil, List.map_append, rune1]; exact ⟨_, _, rfl⟩) | (simp only [api_Attr.pv_eq, api_Node.pv_eq, codec_reader.pv_eq, diptychref2_Reader.pv_eq, pvL, List.map_cons, List.map_nil, List.map_append, rune1, h6]; exact ⟨_, _, rfl⟩)
    exact key _ _ f0 _
  · rintro s ⟨r_4, rfl, v_3, nx, rfl⟩
    try dsimp only at hh
    obtain ⟨s_5, h11, hh⟩ := bind_ex hh
    obtain ⟨h11a, h11c⟩ := sl_some h11
    have h11g := sl_le h11a
    have h11d := id h11c
    try simp only [Int.toNat_natCast, Int.reduceToNat] at h11d
    refine awp_first fun K kk hK => ?_
    simp only [go_sem, h11a.1, h11a.2.1, h11a.2.2, h11d, h11g]
    (repeat refine sd ?_)
    refine hK _ _ fun nx => ?_; clear hK K; try clear kk
    refine awp_ret ?_; refine nmx ?_
    obtain hR := Option.some.inj hh
    subst hR
    refine ret_pureB ?_ (by rfl) ?_
    · simp only [go_sem, rvsRes, rvRes, cellRes, tupOf, pur2, List.map_cons, List.map_append, List.head?_cons]
      all_goals exact wkw
    · (try simp only [go_sem]); (try simp only [List.length_append, List.map_append]); all_goals exact wkb
  · intro i s h; exact h.elim
  · intro s h; exact h.elim
theorem diptychref2_Reader_nodes_x_grp : ∀ kr : Nat, (∀ (left_1 : Int) (reader_2 : diptychref2_Reader) (R : ((List api_Node) × diptychref2_Reader)), diptychref2_Reader_nodes_x_k kr left_1 reader_2 = some R → BC Tryd.prog 89 [.box 1000 0 0, .int .i64 left_1] [.var 75 [.str reader_2.S, .int .i64 reader_2.At, .bool reader_2.Bad]] (.list 5 (R.1.map api_Node.pv)) [.var 75 [.str R.2.S, .int .i64 R.2.At, .bool R.2.Bad]]) ∧
    (∀ (left_1 : Int) (reader_2 : diptychref2_Reader) (R : (api_Node × diptychref2_Reader)), diptychref2_Reader_node_x_k kr left_1 reader_2 = some R → BC Tryd.prog 64 [.box 1000 0 0, .int .i64 left_1] [.var 75 [.str reader_2.S, .int .i64 reader_2.At, .bool reader_2.Bad]] (.agg [.str R.1.Kind, .str R.1.Text, .list 1 (R.1.Marks.map PV.str), .list 2 (R.1.Attrs.map api_Attr.pv), .list 5 (R.1.Kids.map api_Node.pv)]) [.var 75 [.str R.2.S, .int .i64 R.2.At, .bool R.2.Bad]]) := by
  intro kr
  induction kr with
  | zero => exact ⟨(by intro left_1 reader_2 R hh; rw [diptychref2_Reader_nodes_x_k] at hh; cases hh), (by intro left_1 reader_2 R hh; rw [diptychref2_Reader_node_x_k] at hh; cases hh)⟩
  | succ kr ih =>
    obtain ⟨ih_diptychref2_Reader_nodes_x, ih_diptychref2_Reader_node_x⟩ := ih
    refine ⟨?_, ?_⟩
    · intro left_1 reader_2 R hh
      rw [diptychref2_Reader_nodes_x_k] at hh
      refine start_diptychref2_Reader_nodes_x rfl rfl rfl ?_
      refine awp_first fun K kk hK => ?_
      simp only [go_sem]
      refine hK _ _ fun nx => ?_; clear hK K; try clear kk
      refine awp_first fun K kk hK => ?_
      simp only [go_sem]
      refine hK _ _ fun nx => ?_; clear hK K; try clear kk
      refine awp_seq ?_
      obtain ⟨e0, f0, hh⟩ := bind_ex hh
      refine awp_frag (fun s => ∃ out_16, ∃ r_17, (out_16, r_17) = e0 ∧ ∃ (v_15 : Bool) (nx : Nat) (g5 : Nat), s = ⟨[(0, .box 1000 0 0), (1, .int .i64 left_1), (5, .row 5 g5 out_16.length), (27, .bool v_15)], [(5, g5, .row false 5 (out_16.map api_Node.pv)), (1000, 0, .var 75 [.str r_17.S, .int .i64 r_17.At, .bool r_17.Bad])], nx⟩)
        (fun i s => False)
        (fun s => False) ?_ ?_ ?_ ?_
      · refine awp_block ?_
        refine awp_loopJ fun I hI => ?_
        obtain ⟨k, f0⟩ := lim_some f0
        have key : ∀ (k : Nat) (out_9 : (List api_Node)) (r_8 : diptychref2_Reader), diptychref2_Reader_nodes_x_l0 left_1 (diptychref2_Reader_node_x_k kr) k out_9 r_8 = some e0 → ∀ (nx : Nat) (g5 : Nat), I ⟨[(0, .box 1000 0 0), (1, .int .i64 left_1), (5, .row 5 g5 out_9.length)], [(5, g5, .row false 5 (out_9.map api_Node.pv)), (1000, 0, .var 75 [.str r_8.S, .int .i64 r_8.At, .bool r_8.Bad])], nx⟩ := by
          intro k
          induction k with
          | zero => intro out_9 r_8 hh; rw [diptychref2_Reader_nodes_x_l0] at hh; cases hh
          | succ k ih =>
            intro out_9 r_8 hh nx g5
            rw [diptychref2_Reader_nodes_x_l0] at hh
            refine hI _ ?_
            refine awp_seq ?_
            by_cases h7 : (!r_8.Bad) = true
            · rw [if_pos h7] at hh
              by_cases h8 : (decide (r_8.At < (r_8.S.length : Int))) = true
              · rw [if_pos h8] at hh
                obtain ⟨⟨r_10, reader_11⟩, h9, hh⟩ := bind_ex hh
                dsimp only at hh
                refine awp_first fun K kk hK => ?_
                simp only [go_sem, h7, h7, h8, of_decide_eq_true h8, h8, of_decide_eq_true h8]
                (repeat refine sd ?_)
                refine step_callD [1000] (by decide) (by decide) (diptychref2_Reader_is_x_ok _ _ _ h9) (by (try simp only [go_sem, h7, h7, h8, of_decide_eq_true h8, h8, of_decide_eq_true h8, h7, h8]) <;> exact wkb) (by rfl) ?_
                simp only [go_sem, h7, h7, h8, of_decide_eq_true h8, h8, of_decide_eq_true h8]
                (repeat refine sd ?_)
                refine hK _ _ fun nx => ?_; clear hK K; try clear kk
                by_cases h10 : (!r_10) = true
                · rw [if_pos h10] at hh
                  refine awp_true (by first | exact congrArg PV.bool h10 | rfl) ?_
                  refine awp_skip ?_; refine nmx ?_
                  refine awp_block ?_
                  obtain ⟨⟨r_12, reader_13⟩, h11, hh⟩ := bind_ex hh
                  dsimp only at hh
                  obtain ⟨l_14, h12, hh⟩ := bind_ex hh
                  obtain ⟨h12a, h12c⟩ := app_some h12
                  have h12d := app_map (f := api_Node.pv) h12c
                  have h12e := app_len h12c
                  try simp only [List.length_cons, List.length_nil, Nat.zero_add, Nat.reduceAdd] at h12a h12e
                  try simp only [h12e] at h12a
                  try simp only [List.map_cons, List.map_nil, List.nil_append, List.append_nil, List.cons_append, List.singleton_append, rune1, api_Attr.pv_eq, api_Node.pv_eq, codec_reader.pv_eq, diptychref2_Reader.pv_eq, pvL] at h12d
                  refine awp_region fun K kk hK => ?_
                  simp only [go_sem, h12a, h12d, h12e]
                  (repeat refine sd ?_)
                  refine step_callC [1000] (by decide) (ih_diptychref2_Reader_node_x _ _ _ h11) (by (try simp only [go_sem, h12a, h12d, h12e, h10, h7, h8]) <;> exact wkb) (by rfl) ?_
                  simp only [go_sem, h12a, h12d, h12e]
                  (repeat refine sd ?_)
                  refine hK _ _ fun nx => ?_; clear hK K; try clear kk
                  refine nmx ?_
                  have ih' := ih _ _ hh nx
                  refine cut_id ?_
                  first | exact ih' _ | (simp only [api_Attr.pv_eq, api_Node.pv_eq, codec_reader.pv_eq, diptychref2_Reader.pv_eq, pvL, List.map_cons, List.map_nil, List.map_append, rune1, h12e] at ih' ⊢; exact ih' _) | (simp only [api_Attr.pv_eq, api_Node.pv_eq, codec_reader.pv_eq, diptychref2_Reader.pv_eq, pvL, List.map_cons, List.map_nil, List.map_append, rune1, h12e, h10, h7, h8] at ih' ⊢; exact ih' _)
                · rw [if_neg h10] at hh
                  replace h10 := Bool.eq_false_iff.mpr h10
                  refine awp_false (by first | exact congrArg PV.bool h10 | rfl) ?_
                  refine awp_exit ?_; refine nmx ?_
                  refine fragN ?_
                  refine cut_id ?_
                  refine ⟨_, _, (Option.some.inj hh), ?_⟩
                  first | exact ⟨_, _, _, rfl⟩ | (simp only [api_Attr.pv_eq, api_Node.pv_eq, codec_reader.pv_eq, diptychref2_Reader.pv_eq, pvL, List.map_cons, List.map_nil, List.map_append, rune1]; exact ⟨_, _, _, rfl⟩) | (simp only [api_Attr.pv_eq, api_Node.pv_eq, codec_reader.pv_eq, diptychref2_Reader.pv_eq, pvL, List.map_cons, List.map_nil, List.map_append, rune1, h10, h7, h8]; exact ⟨_, _, _, rfl⟩)
              · rw [if_neg h8] at hh
                replace h8 := Bool.eq_false_iff.mpr h8
                refine awp_first fun K kk hK => ?_
                simp only [go_sem, h7, h7, h8, of_decide_eq_false h8, h8, of_decide_eq_false h8]
                (repeat refine sd ?_)
                refine hK _ _ fun nx => ?_; clear hK K; try clear kk
                refine awp_false rfl ?_
                refine awp_exit ?_; refine nmx ?_
                refine fragN ?_
                refine cut_id ?_
                refine ⟨_, _, (Option.some.inj hh), ?_⟩
                first | exact ⟨_, _, _, rfl⟩ | (simp only [api_Attr.pv_eq, api_Node.pv_eq, codec_reader.pv_eq, diptychref2_Reader.pv_eq, pvL, List.map_cons, List.map_nil, List.map_append, rune1]; exact ⟨_, _, _, rfl⟩) | (simp only [api_Attr.pv_eq, api_Node.pv_eq, codec_reader.pv_eq, diptychref2_Reader.pv_eq, pvL, List.map_cons, List.map_nil, List.map_append, rune1, h7, h8]; exact ⟨_, _, _, rfl⟩)
            · rw [if_neg h7] at hh
              replace h7 := Bool.eq_false_iff.mpr h7
              refine awp_first fun K kk hK => ?_
              simp only [go_sem, h7, h7]
              (repeat refine sd ?_)
              refine hK _ _ fun nx => ?_; clear hK K; try clear kk
              refine awp_false rfl ?_
              refine awp_exit ?_; refine nmx ?_
              refine fragN ?_
              refine cut_id ?_
              refine ⟨_, _, (Option.some.inj hh), ?_⟩
              first | exact ⟨_, _, _, rfl⟩ | (simp only [api_Attr.pv_eq, api_Node.pv_eq, codec_reader.pv_eq, diptychref2_Reader.pv_eq, pvL, List.map_cons, List.map_nil, List.map_append, rune1]; exact ⟨_, _, _, rfl⟩) | (simp only [api_Attr.pv_eq, api_Node.pv_eq, codec_reader.pv_eq, diptychref2_Reader.pv_eq, pvL, List.map_cons, List.map_nil, List.map_append, rune1, h7]; exact ⟨_, _, _, rfl⟩)
        exact key _ _ _ f0 _ _
      · rintro s ⟨out_16, r_17, rfl, v_15, nx, g5, rfl⟩
        try dsimp only at hh
        refine awp_first fun K kk hK => ?_
        simp only [go_sem]
        refine hK _ _ fun nx => ?_; clear hK K; try clear kk
        refine awp_ret ?_; refine nmx ?_
        obtain hR := Option.some.inj hh
        subst hR
        refine ret_pureB ?_ (by rfl) ?_
        · simp only [go_sem, rvsRes, rvRes, cellRes, tupOf, pur2, List.map_cons, List.map_append, List.head?_cons]
          all_goals exact wkw
        · (try simp only [go_sem]); (try simp only [List.length_append, List.map_append]); all_goals exact wkb
      · intro i s h; exact h.elim
      · intro s h; exact h.elim
    · intro left_1 reader_2 R hh
      rw [diptychref2_Reader_node_x_k] at hh
      refine start_diptychref2_Reader_node_x rfl rfl rfl ?_
      refine awp_first fun K kk hK => ?_
      simp only [go_sem]
      refine hK _ _ fun nx => ?_; clear hK K; try clear kk
      refine awp_first fun K kk hK => ?_
      simp only [go_sem]
      refine hK _ _ fun nx => ?_; clear hK K; try clear kk
      refine awp_seq ?_
      refine awp_first fun K kk hK => ?_
      simp only [go_sem]
      refine hK _ _ fun nx => ?_; clear hK K; try clear kk
      by_cases h1 : (left_1 == (0 : Int)) = true
      · rw [if_pos h1] at hh
        refine awp_true (by first | exact congrArg PV.bool h1 | rfl) ?_
        refine awp_first fun K kk hK => ?_
        simp only [go_sem]
        refine hK _ _ fun nx => ?_; clear hK K; try clear kk
        refine awp_first fun K kk hK => ?_
        simp only [go_sem]
        refine hK _ _ fun nx => ?_; clear hK K; try clear kk
        refine awp_ret ?_; refine nmx ?_
        obtain hR := Option.some.inj hh
        subst hR
        refine ret_pureB ?_ (by rfl) ?_
        · simp only [go_sem, rvsRes, rvRes, cellRes, tupOf, pur2, List.map_cons, List.map_append, List.head?_cons, h1]
          all_goals exact wkw
        · (try simp only [go_sem, h1]); (try simp only [List.length_append, List.map_append]); all_goals exact wkb
      · rw [if_neg h1] at hh
        replace h1 := Bool.eq_false_iff.mpr h1
        refine awp_false (by first | exact congrArg PV.bool h1 | rfl) ?_
        refine awp_skip ?_; refine nmx ?_
        refine awp_seq ?_
        obtain ⟨⟨r_3, reader_4⟩, h2, hh⟩ := bind_ex hh
        dsimp only at hh
        refine awp_first fun K kk hK => ?_
        simp only [go_sem]
        refine step_callC [1000] (by decide) (diptychref2_Reader_is_x_ok _ _ _ h2) (by (try simp only [go_sem, h1]) <;> exact wkb) (by rfl) ?_
        simp only [go_sem]
        refine hK _ _ fun nx => ?_; clear hK K; try clear kk
        by_cases h3 : (r_3) = true
        · rw [if_pos h3] at hh
          refine awp_true (by first | exact congrArg PV.bool h3 | rfl) ?_
          refine awp_first fun K kk hK => ?_
          simp only [go_sem]
          refine hK _ _ fun nx => ?_; clear hK K; try clear kk
          obtain ⟨⟨r_5, reader_6⟩, h4, hh⟩ := bind_ex hh
          dsimp only at hh
          refine awp_first fun K kk hK => ?_
          simp only [go_sem]
          refine step_callC [1000] (by decide) (diptychref2_Reader_quoted_x_ok _ _ h4) (by (try simp only [go_sem, h1, h3]) <;> exact wkb) (by rfl) ?_
          simp only [go_sem]
          refine hK _ _ fun nx => ?_; clear hK K; try clear kk
          refine awp_seq ?_
          obtain ⟨⟨r_7, reader_8⟩, h5, hh⟩ := bind_ex hh
          dsimp only at hh
          refine awp_first fun K kk hK => ?_
          simp only [go_sem]
          refine step_callC [1000] (by decide) (diptychref2_Reader_is_x_ok _ _ _ h5) (by (try simp only [go_sem, h1, h3]) <;> exact wkb) (by rfl) ?_
          simp only [go_sem]
          refine hK _ _ fun nx => ?_; clear hK K; try clear kk
          by_cases h6 : (r_7) = true
          · rw [if_pos h6] at hh
            refine awp_true (by first | exact congrArg PV.bool h6 | rfl) ?_
            obtain ⟨reader_9, h7, hh⟩ := bind_ex hh
            refine awp_first fun K kk hK => ?_
            simp only [go_sem]
            refine step_callC [1000] (by decide) (diptychref2_Reader_eat_x_ok _ _ _ h7) (by (try simp only [go_sem, h1, h3, h6]) <;> exact wkb) (by rfl) ?_
            simp only [go_sem]
            refine hK _ _ fun nx => ?_; clear hK K; try clear kk
            obtain ⟨⟨r_10, reader_11⟩, h8, hh⟩ := bind_ex hh
            dsimp only at hh
            obtain ⟨l_12, h9, hh⟩ := bind_ex hh
            obtain ⟨h9a, h9c⟩ := app_some h9
            have h9d := app_map (f := PV.str) h9c
            have h9e := (app_len h9c).symm
            try simp only [List.length_cons, List.length_nil, Nat.zero_add, Nat.reduceAdd] at h9a h9e
            try simp only [List.map_cons, List.map_nil, List.nil_append, List.append_nil, List.cons_append, List.singleton_append, rune1, api_Attr.pv_eq, api_Node.pv_eq, codec_reader.pv_eq, diptychref2_Reader.pv_eq, pvL] at h9d
            have h9g := take_lit (f := PV.str) h9e
            refine awp_first fun K kk hK => ?_
            simp only [go_sem, h9a, h9d, eq_true h9e, eq_true (Nat.le_of_eq h9e.symm), h9g]
            (repeat refine sd ?_)
            refine step_callD [1000] (by decide) (by decide) (diptychref2_Reader_letters_x_ok _ _ h8) (by (try simp only [go_sem, h9a, h9d, eq_true h9e, eq_true (Nat.le_of_eq h9e.symm), h9g, h1, h3, h6]) <;> exact wkb) (by rfl) ?_
            simp only [go_sem, h9a, h9d, eq_true h9e, eq_true (Nat.le_of_eq h9e.symm), h9g]
            (repeat refine sd ?_)
            refine hK _ _ fun nx => ?_; clear hK K; try clear kk
            refine awp_seq ?_
            obtain ⟨e0, f0, hh⟩ := bind_ex hh
            refine awp_frag (fun s => ∃ v_28, ∃ r_29, (v_28, r_29) = e0 ∧ ∃ (v_27 : Bool) (nx : Nat) (g4 : Nat) (g5 : Nat) (g337 : Nat) (g338 : Nat), s = ⟨[(0, .box 1000 0 0), (4, .box 4 g4 0), (5, .box 5 g5 0), (32, .bool v_27)], [(4, g4, .var 26 [.str ([] : Str), .str ([] : Str), .list 1 ([].map PV.str), .list 2 ([].map api_Attr.pv), .list 5 ([].map api_Node.pv)]), (5, g5, .var 26 [.str ([116, 101, 120, 116] : Str), .str r_5, .row 337 g337 v_28.length, .row 338 g338 ([] : List api_Attr).length, .list 5 ([].map api_Node.pv)]), (337, g337, .row false 1 (v_28.map PV.str)), (338, g338, .row false 2 (([] : List api_Attr).map api_Attr.pv)), (1000, 0, .var 75 [.str r_29.S, .int .i64 r_29.At, .bool r_29.Bad])], nx⟩)
              (fun i s => False)
              (fun s => False) ?_ ?_ ?_ ?_
            · refine awp_block ?_
              refine awp_loopJ fun I hI => ?_
              obtain ⟨k, f0⟩ := lim_some f0
              have key : ∀ (k : Nat) (v_20 : (List Str)) (r_19 : diptychref2_Reader), diptychref2_Reader_node_x_l0 k v_20 r_19 = some e0 → ∀ (nx : Nat) (g4 : Nat) (g5 : Nat) (g337 : Nat) (g338 : Nat), I ⟨[(0, .box 1000 0 0), (4, .box 4 g4 0), (5, .box 5 g5 0)], [(4, g4, .var 26 [.str ([] : Str), .str ([] : Str), .list 1 ([].map PV.str), .list 2 ([].map api_Attr.pv), .list 5 ([].map api_Node.pv)]), (5, g5, .var 26 [.str ([116, 101, 120, 116] : Str), .str r_5, .row 337 g337 v_20.length, .row 338 g338 ([] : List api_Attr).length, .list 5 ([].map api_Node.pv)]), (337, g337, .row false 1 (v_20.map PV.str)), (338, g338, .row false 2 (([] : List api_Attr).map api_Attr.pv)), (1000, 0, .var 75 [.str r_19.S, .int .i64 r_19.At, .bool r_19.Bad])], nx⟩ := by
                intro k
                induction k with
                | zero => intro v_20 r_19 hh; rw [diptychref2_Reader_node_x_l0] at hh; cases hh
                | succ k ih =>
                  intro v_20 r_19 hh nx g4 g5 g337 g338
                  rw [diptychref2_Reader_node_x_l0] at hh
                  refine hI _ ?_
                  refine awp_seq ?_
                  obtain ⟨⟨r_21, reader_22⟩, h15, hh⟩ := bind_ex hh
                  dsimp only at hh
                  refine awp_first fun K kk hK => ?_
                  simp only [go_sem]
                  refine step_callC [1000] (by decide) (diptychref2_Reader_is_x_ok _ _ _ h15) (by (try simp only [go_sem, h1, h3, h6]) <;> exact wkb) (by rfl) ?_
                  simp only [go_sem]
                  refine hK _ _ fun nx => ?_; clear hK K; try clear kk
                  by_cases h16 : (r_21) = true
                  · rw [if_pos h16] at hh
                    refine awp_true (by first | exact congrArg PV.bool h16 | rfl) ?_
                    refine awp_skip ?_; refine nmx ?_
                    refine awp_block ?_
                    obtain ⟨reader_23, h17, hh⟩ := bind_ex hh
                    refine awp_first fun K kk hK => ?_
                    simp only [go_sem]
                    refine step_callC [1000] (by decide) (diptychref2_Reader_eat_x_ok _ _ _ h17) (by (try simp only [go_sem, h1, h16, h3, h6]) <;> exact wkb) (by rfl) ?_
                    simp only [go_sem]
                    refine hK _ _ fun nx => ?_; clear hK K; try clear kk
                    obtain ⟨⟨r_24, reader_25⟩, h18, hh⟩ := bind_ex hh
                    dsimp only at hh
                    obtain ⟨l_26, h19, hh⟩ := bind_ex hh
                    obtain ⟨h19a, h19c⟩ := app_some h19
                    have h19d := app_map (f := PV.str) h19c
                    have h19e := app_len h19c
                    try simp only [List.length_cons, List.length_nil, Nat.zero_add, Nat.reduceAdd] at h19a h19e
                    try simp only [h19e] at h19a
                    try simp only [List.map_cons, List.map_nil, List.nil_append, List.append_nil, List.cons_append, List.singleton_append, rune1, api_Attr.pv_eq, api_Node.pv_eq, codec_reader.pv_eq, diptychref2_Reader.pv_eq, pvL] at h19d
                    refine awp_region fun K kk hK => ?_
                    simp only [go_sem, h19a, h19d, h19e]
                    (repeat refine sd ?_)
                    refine step_callD [1000] (by decide) (by decide) (diptychref2_Reader_letters_x_ok _ _ h18) (by (try simp only [go_sem, h19a, h19d, h19e, h1, h16, h3, h6]) <;> exact wkb) (by rfl) ?_
                    simp only [go_sem, h19a, h19d, h19e]
                    (repeat refine sd ?_)
                    refine hK _ _ fun nx => ?_; clear hK K; try clear kk
                    refine nmx ?_
                    have ih' := ih _ _ hh nx
                    refine cut_id ?_
                    first | exact ih' _ _ _ _ | (simp only [api_Attr.pv_eq, api_Node.pv_eq, codec_reader.pv_eq, diptychref2_Reader.pv_eq, pvL, List.map_cons, List.map_nil, List.map_append, rune1, h9e, h19e] at ih' ⊢; exact ih' _ _ _ _) | (simp only [api_Attr.pv_eq, api_Node.pv_eq, codec_reader.pv_eq, diptychref2_Reader.pv_eq, pvL, List.map_cons, List.map_nil, List.map_append, rune1, h9e, h19e, h1, h16, h3, h6] at ih' ⊢; exact ih' _ _ _ _)
                  · rw [if_neg h16] at hh
                    replace h16 := Bool.eq_false_iff.mpr h16
                    refine awp_false (by first | exact congrArg PV.bool h16 | rfl) ?_
                    refine awp_exit ?_; refine nmx ?_
                    refine fragN ?_
                    refine cut_id ?_
                    refine ⟨_, _, (Option.some.inj hh), ?_⟩
                    first | exact ⟨_, _, _, _, _, _, rfl⟩ | (simp only [api_Attr.pv_eq, api_Node.pv_eq, codec_reader.pv_eq, diptychref2_Reader.pv_eq, pvL, List.map_cons, List.map_nil, List.map_append, rune1, h9e]; exact ⟨_, _, _, _, _, _, rfl⟩) | (simp only [api_Attr.pv_eq, api_Node.pv_eq, codec_reader.pv_eq, diptychref2_Reader.pv_eq, pvL, List.map_cons, List.map_nil, List.map_append, rune1, h9e, h1, h16, h3, h6]; exact ⟨_, _, _, _, _, _, rfl⟩)
              exact key _ _ _ f0 _ _ _ _ _
            · rintro s ⟨v_28, r_29, rfl, v_27, nx, g4, g5, g337, g338, rfl⟩
              try dsimp only at hh
              obtain ⟨reader_30, h20, hh⟩ := bind_ex hh
              refine awp_region fun K kk hK => ?_
              simp only [go_sem]
              refine step_callC [1000] (by decide) (diptychref2_Reader_eat_x_ok _ _ _ h20) (by (try simp only [go_sem, h1, h3, h6]) <;> exact wkb) (by rfl) ?_
              simp only [go_sem]
              refine hK _ _ fun nx => ?_; clear hK K; try clear kk
              refine nmx ?_
              refine awp_first fun K kk hK => ?_
              simp only [go_sem]
              refine hK _ _ fun nx => ?_; clear hK K; try clear kk
              refine awp_ret ?_; refine nmx ?_
              obtain hR := Option.some.inj hh
              subst hR
              refine ret_pureB ?_ (by rfl) ?_
              · simp only [go_sem, rvsRes, rvRes, cellRes, tupOf, pur2, List.map_cons, List.map_append, List.head?_cons, h1, h3, h6]
                all_goals exact wkw
              · (try simp only [go_sem, h1, h3, h6]); (try simp only [List.length_append, List.map_append, h9e]); all_goals exact wkb
            · intro i s h; exact h.elim
            · intro s h; exact h.elim
          · rw [if_neg h6] at hh
            replace h6 := Bool.eq_false_iff.mpr h6
            refine awp_false (by first | exact congrArg PV.bool h6 | rfl) ?_
            refine awp_skip ?_; refine nmx ?_
            refine awp_first fun K kk hK => ?_
            simp only [go_sem]
            refine hK _ _ fun nx => ?_; clear hK K; try clear kk
            refine awp_ret ?_; refine nmx ?_
            obtain hR := Option.some.inj hh
            subst hR
            refine ret_pureB ?_ (by rfl) ?_
            · simp only [go_sem, rvsRes, rvRes, cellRes, tupOf, pur2, List.map_cons, List.map_append, List.head?_cons, h1, h3, h6]
              all_goals exact wkw
            · (try simp only [go_sem, h1, h3, h6]); (try simp only [List.length_append, List.map_append]); all_goals exact wkb
        · rw [if_neg h3] at hh
          replace h3 := Bool.eq_false_iff.mpr h3
          refine awp_false (by first | exact congrArg PV.bool h3 | rfl) ?_
          refine awp_skip ?_; refine nmx ?_
          obtain ⟨⟨r_31, reader_32⟩, h21, hh⟩ := bind_ex hh
          dsimp only at hh
          refine awp_first fun K kk hK => ?_
          simp only [go_sem]
          refine step_callC [1000] (by decide) (diptychref2_Reader_letters_x_ok _ _ h21) (by (try simp only [go_sem, h1, h3]) <;> exact wkb) (by rfl) ?_
          simp only [go_sem]
          refine hK _ _ fun nx => ?_; clear hK K; try clear kk
          refine awp_seq ?_
          obtain ⟨e1, f1, hh⟩ := bind_ex hh
          refine awp_frag (fun s => ∃ v_61, ∃ r_62, (v_61, r_62) = e1 ∧ ∃ (nx : Nat) (g4 : Nat) (g5 : Nat) (g337 : Nat) (g338 : Nat), s = ⟨[(0, .box 1000 0 0), (1, .int .i64 left_1), (4, .box 4 g4 0), (5, .box 5 g5 0)], [(4, g4, .var 26 [.str ([] : Str), .str ([] : Str), .list 1 ([].map PV.str), .list 2 ([].map api_Attr.pv), .list 5 ([].map api_Node.pv)]), (5, g5, .var 26 [.str r_31, .str ([] : Str), .row 337 g337 ([] : List Str).length, .row 338 g338 v_61.length, .list 5 ([].map api_Node.pv)]), (337, g337, .row false 1 (([] : List Str).map PV.str)), (338, g338, .row false 2 (v_61.map api_Attr.pv)), (1000, 0, .var 75 [.str r_62.S, .int .i64 r_62.At, .bool r_62.Bad])], nx⟩)
            (fun i s => False)
            (fun s => False) ?_ ?_ ?_ ?_
          · have hh := f1
            obtain ⟨⟨r_33, reader_34⟩, h22, hh⟩ := bind_ex hh
            dsimp only at hh
            refine awp_first fun K kk hK => ?_
            simp only [go_sem]
            refine step_callC [1000] (by decide) (diptychref2_Reader_is_x_ok _ _ _ h22) (by (try simp only [go_sem, h1, h3]) <;> exact wkb) (by rfl) ?_
            simp only [go_sem]
            refine hK _ _ fun nx => ?_; clear hK K; try clear kk
            by_cases h23 : (r_33) = true
            · rw [if_pos h23] at hh
              refine awp_true (by first | exact congrArg PV.bool h23 | rfl) ?_
              refine awp_first fun K kk hK => ?_
              simp only [go_sem]
              refine hK _ _ fun nx => ?_; clear hK K; try clear kk
              refine awp_seq ?_
              obtain ⟨e2, f2, hh⟩ := bind_ex hh
              refine awp_frag (fun s => ∃ v_58, ∃ r_59, (v_58, r_59) = e2 ∧ ∃ (sign_56 : Int) (v_57 : Bool) (nx : Nat) (g4 : Nat) (g5 : Nat) (g337 : Nat) (g338 : Nat), s = ⟨[(0, .box 1000 0 0), (1, .int .i64 left_1), (4, .box 4 g4 0), (5, .box 5 g5 0), (6, .int .u8 sign_56), (59, .bool v_57)], [(4, g4, .var 26 [.str ([] : Str), .str ([] : Str), .list 1 ([].map PV.str), .list 2 ([].map api_Attr.pv), .list 5 ([].map api_Node.pv)]), (5, g5, .var 26 [.str r_31, .str ([] : Str), .row 337 g337 ([] : List Str).length, .row 338 g338 v_58.length, .list 5 ([].map api_Node.pv)]), (337, g337, .row false 1 (([] : List Str).map PV.str)), (338, g338, .row false 2 (v_58.map api_Attr.pv)), (1000, 0, .var 75 [.str r_59.S, .int .i64 r_59.At, .bool r_59.Bad])], nx⟩)
                (fun i s => False)
                (fun s => False) ?_ ?_ ?_ ?_
              · refine awp_block ?_
                refine awp_loopJ fun I hI => ?_
                obtain ⟨k, f2⟩ := lim_some f2
                have key : ∀ (k : Nat) (sign_45 : Int) (v_46 : (List api_Attr)) (r_44 : diptychref2_Reader), diptychref2_Reader_node_x_l2 k sign_45 v_46 r_44 = some e2 → ∀ (nx : Nat) (g4 : Nat) (g5 : Nat) (g337 : Nat) (g338 : Nat), I ⟨[(0, .box 1000 0 0), (1, .int .i64 left_1), (4, .box 4 g4 0), (5, .box 5 g5 0), (6, .int .u8 sign_45)], [(4, g4, .var 26 [.str ([] : Str), .str ([] : Str), .list 1 ([].map PV.str), .list 2 ([].map api_Attr.pv), .list 5 ([].map api_Node.pv)]), (5, g5, .var 26 [.str r_31, .str ([] : Str), .row 337 g337 ([] : List Str).length, .row 338 g338 v_46.length, .list 5 ([].map api_Node.pv)]), (337, g337, .row false 1 (([] : List Str).map PV.str)), (338, g338, .row false 2 (v_46.map api_Attr.pv)), (1000, 0, .var 75 [.str r_44.S, .int .i64 r_44.At, .bool r_44.Bad])], nx⟩ := by
                  intro k
                  induction k with
                  | zero => intro sign_45 v_46 r_44 hh; rw [diptychref2_Reader_node_x_l2] at hh; cases hh
                  | succ k ih =>
                    intro sign_45 v_46 r_44 hh nx g4 g5 g337 g338
                    rw [diptychref2_Reader_node_x_l2] at hh
                    refine hI _ ?_
                    refine awp_seq ?_
                    obtain ⟨⟨r_47, reader_48⟩, h32, hh⟩ := bind_ex hh
                    dsimp only at hh
                    by_cases h33 : (r_47) = true
                    · rw [if_pos h33] at hh
                      refine awp_first fun K kk hK => ?_
                      simp only [go_sem, h33, h33]
                      (repeat refine sd ?_)
                      refine step_callC [1000] (by decide) (diptychref2_Reader_is_x_ok _ _ _ h32) (by (try simp only [go_sem, h33, h33, h1, h23, h3]) <;> exact wkb) (by rfl) ?_
                      simp only [go_sem, h33, h33]
                      (repeat refine sd ?_)
                      refine hK _ _ fun nx => ?_; clear hK K; try clear kk
                      by_cases h34 : (!reader_48.Bad) = true
                      · rw [if_pos h34] at hh
                        refine awp_true (by first | exact congrArg PV.bool h34 | rfl) ?_
                        refine awp_skip ?_; refine nmx ?_
                        refine awp_block ?_
                        obtain ⟨reader_49, h35, hh⟩ := bind_ex hh
                        refine awp_first fun K kk hK => ?_
                        simp only [go_sem]
                        refine step_callC [1000] (by decide) (diptychref2_Reader_eat_x_ok _ _ _ h35) (by (try simp only [go_sem, h1, h23, h3, h33, h34]) <;> exact wkb) (by rfl) ?_
                        simp only [go_sem]
                        refine hK _ _ fun nx => ?_; clear hK K; try clear kk
                        obtain ⟨⟨r_50, reader_51⟩, h36, hh⟩ := bind_ex hh
                        dsimp only at hh
                        refine awp_first fun K kk hK => ?_
                        simp only [go_sem]
                        refine step_callC [1000] (by decide) (diptychref2_Reader_letters_x_ok _ _ h36) (by (try simp only [go_sem, h1, h23, h3, h33, h34]) <;> exact wkb) (by rfl) ?_
                        simp only [go_sem]
                        refine hK _ _ fun nx => ?_; clear hK K; try clear kk
                        obtain ⟨reader_52, h37, hh⟩ := bind_ex hh
                        refine awp_first fun K kk hK => ?_
                        simp only [go_sem]
                        refine step_callC [1000] (by decide) (diptychref2_Reader_eat_x_ok _ _ _ h37) (by (try simp only [go_sem, h1, h23, h3, h33, h34]) <;> exact wkb) (by rfl) ?_
                        simp only [go_sem]
                        refine hK _ _ fun nx => ?_; clear hK K; try clear kk
                        obtain ⟨⟨r_53, reader_54⟩, h38, hh⟩ := bind_ex hh
                        dsimp only at hh
                        obtain ⟨l_55, h39, hh⟩ := bind_ex hh
                        obtain ⟨h39a, h39c⟩ := app_some h39
                        have h39d := app_map (f := api_Attr.pv) h39c
                        have h39e := app_len h39c
                        try simp only [List.length_cons, List.length_nil, Nat.zero_add, Nat.reduceAdd] at h39a h39e
                        try simp only [h39e] at h39a
                        try simp only [List.map_cons, List.map_nil, List.nil_append, List.append_nil, List.cons_append, List.singleton_append, rune1, api_Attr.pv_eq, api_Node.pv_eq, codec_reader.pv_eq, diptychref2_Reader.pv_eq, pvL] at h39d
                        refine awp_first fun K kk hK => ?_
                        simp only [go_sem, h39a, h39d, h39e]
                        (repeat refine sd ?_)
                        refine step_callD [1000] (by decide) (by decide) (diptychref2_Reader_quoted_x_ok _ _ h38) (by (try simp only [go_sem, h39a, h39d, h39e, h1, h23, h3, h33, h34]) <;> exact wkb) (by rfl) ?_
                        simp only [go_sem, h39a, h39d, h39e]
                        (repeat refine sd ?_)
                        refine hK _ _ fun nx => ?_; clear hK K; try clear kk
                        refine awp_region fun K kk hK => ?_
                        simp only [go_sem]
                        refine hK _ _ fun nx => ?_; clear hK K; try clear kk
                        refine nmx ?_
                        have ih' := ih _ _ _ hh nx
                        refine cut_id ?_
                        first | exact ih' _ _ _ _ | (simp only [api_Attr.pv_eq, api_Node.pv_eq, codec_reader.pv_eq, diptychref2_Reader.pv_eq, pvL, List.map_cons, List.map_nil, List.map_append, rune1, h39e] at ih' ⊢; exact ih' _ _ _ _) | (simp only [api_Attr.pv_eq, api_Node.pv_eq, codec_reader.pv_eq, diptychref2_Reader.pv_eq, pvL, List.map_cons, List.map_nil, List.map_append, rune1, h39e, h1, h23, h3, h33, h34] at ih' ⊢; exact ih' _ _ _ _)
                      · rw [if_neg h34] at hh
                        replace h34 := Bool.eq_false_iff.mpr h34
                        refine awp_false (by first | exact congrArg PV.bool h34 | rfl) ?_
                        refine awp_exit ?_; refine nmx ?_
                        refine fragN ?_
                        refine cut_id ?_
                        refine ⟨_, _, (Option.some.inj hh), ?_⟩
                        first | exact ⟨_, _, _, _, _, _, _, rfl⟩ | (simp only [api_Attr.pv_eq, api_Node.pv_eq, codec_reader.pv_eq, diptychref2_Reader.pv_eq, pvL, List.map_cons, List.map_nil, List.map_append, rune1]; exact ⟨_, _, _, _, _, _, _, rfl⟩) | (simp only [api_Attr.pv_eq, api_Node.pv_eq, codec_reader.pv_eq, diptychref2_Reader.pv_eq, pvL, List.map_cons, List.map_nil, List.map_append, rune1, h1, h23, h3, h33, h34]; exact ⟨_, _, _, _, _, _, _, rfl⟩)
                    · rw [if_neg h33] at hh
                      replace h33 := Bool.eq_false_iff.mpr h33
                      refine awp_first fun K kk hK => ?_
                      simp only [go_sem, h33, h33]
                      (repeat refine sd ?_)
                      refine step_callC [1000] (by decide) (diptychref2_Reader_is_x_ok _ _ _ h32) (by (try simp only [go_sem, h33, h33, h1, h23, h3]) <;> exact wkb) (by rfl) ?_
                      simp only [go_sem, h33, h33]
                      (repeat refine sd ?_)
                      refine hK _ _ fun nx => ?_; clear hK K; try clear kk
                      refine awp_false rfl ?_
                      refine awp_exit ?_; refine nmx ?_
                      refine fragN ?_
                      refine cut_id ?_
                      refine ⟨_, _, (Option.some.inj hh), ?_⟩
                      first | exact ⟨_, _, _, _, _, _, _, rfl⟩ | (simp only [api_Attr.pv_eq, api_Node.pv_eq, codec_reader.pv_eq, diptychref2_Reader.pv_eq, pvL, List.map_cons, List.map_nil, List.map_append, rune1]; exact ⟨_, _, _, _, _, _, _, rfl⟩) | (simp only [api_Attr.pv_eq, api_Node.pv_eq, codec_reader.pv_eq, diptychref2_Reader.pv_eq, pvL, List.map_cons, List.map_nil, List.map_append, rune1, h1, h23, h3, h33]; exact ⟨_, _, _, _, _, _, _, rfl⟩)
                exact key _ _ _ _ f2 _ _ _ _ _
              · rintro s ⟨v_58, r_59, rfl, sign_56, v_57, nx, g4, g5, g337, g338, rfl⟩
                try dsimp only at hh
                obtain ⟨reader_60, h40, hh⟩ := bind_ex hh
                refine awp_region fun K kk hK => ?_
                simp only [go_sem]
                refine step_callC [1000] (by decide) (diptychref2_Reader_eat_x_ok _ _ _ h40) (by (try simp only [go_sem, h1, h23, h3]) <;> exact wkb) (by rfl) ?_
                simp only [go_sem]
                refine hK _ _ fun nx => ?_; clear hK K; try clear kk
                refine nmx ?_
                refine fragN ?_
                refine cut_id ?_
                refine ⟨_, _, (Option.some.inj hh), ?_⟩
                first | exact ⟨_, _, _, _, _, rfl⟩ | (simp only [api_Attr.pv_eq, api_Node.pv_eq, codec_reader.pv_eq, diptychref2_Reader.pv_eq, pvL, List.map_cons, List.map_nil, List.map_append, rune1]; exact ⟨_, _, _, _, _, rfl⟩) | (simp only [api_Attr.pv_eq, api_Node.pv_eq, codec_reader.pv_eq, diptychref2_Reader.pv_eq, pvL, List.map_cons, List.map_nil, List.map_append, rune1, h1, h23, h3]; exact ⟨_, _, _, _, _, rfl⟩)
              · intro i s h; exact h.elim
              · intro s h; exact h.elim
            · rw [if_neg h23] at hh
              replace h23 := Bool.eq_false_iff.mpr h23
              refine awp_false (by first | exact congrArg PV.bool h23 | rfl) ?_
              refine awp_skip ?_; refine nmx ?_
              refine fragN ?_
              refine cut_to (less_cut _ [0, 1, 4, 5] [4, 5, 337, 338, 1000]) ?_
              refine ⟨_, _, (Option.some.inj hh), ?_⟩
              first | exact ⟨_, _, _, _, _, rfl⟩ | (simp only [api_Attr.pv_eq, api_Node.pv_eq, codec_reader.pv_eq, diptychref2_Reader.pv_eq, pvL, List.map_cons, List.map_nil, List.map_append, rune1]; exact ⟨_, _, _, _, _, rfl⟩) | (simp only [api_Attr.pv_eq, api_Node.pv_eq, codec_reader.pv_eq, diptychref2_Reader.pv_eq, pvL, List.map_cons, List.map_nil, List.map_append, rune1, h1, h23, h3]; exact ⟨_, _, _, _, _, rfl⟩)
          · rintro s ⟨v_61, r_62, rfl, nx, g4, g5, g337, g338, rfl⟩
            try dsimp only at hh
            obtain ⟨reader_63, h41, hh⟩ := bind_ex hh
            refine awp_first fun K kk hK => ?_
            simp only [go_sem]
            refine step_callC [1000] (by decide) (diptychref2_Reader_eat_x_ok _ _ _ h41) (by (try simp only [go_sem, h1, h3]) <;> exact wkb) (by rfl) ?_
            simp only [go_sem]
            refine hK _ _ fun nx => ?_; clear hK K; try clear kk
            obtain ⟨⟨r_64, reader_65⟩, h42, hh⟩ := bind_ex hh
            dsimp only at hh
            refine awp_first fun K kk hK => ?_
            simp only [go_sem]
            refine step_callC [1000] (by decide) (ih_diptychref2_Reader_nodes_x _ _ _ h42) (by (try simp only [go_sem, h1, h3]) <;> exact wkb) (by rfl) ?_
            simp only [go_sem]
            refine hK _ _ fun nx => ?_; clear hK K; try clear kk
            obtain ⟨reader_66, h43, hh⟩ := bind_ex hh
            refine awp_first fun K kk hK => ?_
            simp only [go_sem]
            refine step_callC [1000] (by decide) (diptychref2_Reader_eat_x_ok _ _ _ h43) (by (try simp only [go_sem, h1, h3]) <;> exact wkb) (by rfl) ?_
            simp only [go_sem]
            refine hK _ _ fun nx => ?_; clear hK K; try clear kk
            refine awp_first fun K kk hK => ?_
            simp only [go_sem]
            refine hK _ _ fun nx => ?_; clear hK K; try clear kk
            refine awp_ret ?_; refine nmx ?_
            obtain hR := Option.some.inj hh
            subst hR
            refine ret_pureB ?_ (by rfl) ?_
            · simp only [go_sem, rvsRes, rvRes, cellRes, tupOf, pur2, List.map_cons, List.map_append, List.head?_cons, h1, h3]
              all_goals exact wkw
            · (try simp only [go_sem, h1, h3]); (try simp only [List.length_append, List.map_append]); all_goals exact wkb
          · intro i s h; exact h.elim
          · intro s h; exact h.elim
theorem diptychref2_Reader_nodes_x_ok (left_1 : Int) (reader_2 : diptychref2_Reader) (R : ((List api_Node) × diptychref2_Reader)) (hh : diptychref2_Reader_nodes_x left_1 reader_2 = some R) : BC Tryd.prog 89 [.box 1000 0 0, .int .i64 left_1] [.var 75 [.str reader_2.S, .int .i64 reader_2.At, .bool reader_2.Bad]] (.list 5 (R.1.map api_Node.pv)) [.var 75 [.str R.2.S, .int .i64 R.2.At, .bool R.2.Bad]] := by
  rw [diptychref2_Reader_nodes_x] at hh
  obtain ⟨kr, hh⟩ := lim_some hh
  exact (diptychref2_Reader_nodes_x_grp kr).1 _ _ _ hh
theorem diptychref2_Reader_node_x_ok (left_1 : Int) (reader_2 : diptychref2_Reader) (R : (api_Node × diptychref2_Reader)) (hh : diptychref2_Reader_node_x left_1 reader_2 = some R) : BC Tryd.prog 64 [.box 1000 0 0, .int .i64 left_1] [.var 75 [.str reader_2.S, .int .i64 reader_2.At, .bool reader_2.Bad]] (.agg [.str R.1.Kind, .str R.1.Text, .list 1 (R.1.Marks.map PV.str), .list 2 (R.1.Attrs.map api_Attr.pv), .list 5 (R.1.Kids.map api_Node.pv)]) [.var 75 [.str R.2.S, .int .i64 R.2.At, .bool R.2.Bad]] := by
  rw [diptychref2_Reader_node_x] at hh
  obtain ⟨kr, hh⟩ := lim_some hh
  exact (diptychref2_Reader_nodes_x_grp kr).2 _ _ _ hh
theorem diptychref2_Reader_Node_x_ok (reader_1 : diptychref2_Reader) (R : (api_Node × diptychref2_Reader)) (hh : diptychref2_Reader_Node_x reader_1 = some R) : BC Tryd.prog 45 [.box 1000 0 0] [.var 75 [.str reader_1.S, .int .i64 reader_1.At, .bool reader_1.Bad]] (.agg [.str R.1.Kind, .str R.1.Text, .list 1 (R.1.Marks.map PV.str), .list 2 (R.1.Attrs.map api_Attr.pv), .list 5 (R.1.Kids.map api_Node.pv)]) [.var 75 [.str R.2.S, .int .i64 R.2.At, .bool R.2.Bad]] := by
  rw [diptychref2_Reader_Node_x] at hh
  refine start_diptychref2_Reader_Node_x rfl rfl rfl ?_
  refine awp_first fun K kk hK => ?_
  simp only [go_sem]
  refine hK _ _ fun nx => ?_; clear hK K; try clear kk
  obtain ⟨⟨r_2, reader_3⟩, h1, hh⟩ := bind_ex hh
  dsimp only at hh
  refine awp_first fun K kk hK => ?_
  simp only [go_sem]
  refine step_callC [1000] (by decide) (diptychref2_Reader_node_x_ok _ _ _ h1) (by (try simp only [go_sem]) <;> exact wkb) (by rfl) ?_
  simp only [go_sem]
  refine hK _ _ fun nx => ?_; clear hK K; try clear kk
  refine awp_ret ?_; refine nmx ?_
  obtain hR := Option.some.inj hh
  subst hR
  refine ret_pureB ?_ (by rfl) ?_
  · simp only [go_sem, rvsRes, rvRes, cellRes, tupOf, pur2, List.map_cons, List.map_append, List.head?_cons]
    all_goals exact wkw
  · (try simp only [go_sem]); (try simp only [List.length_append, List.map_append]); all_goals exact wkb
theorem diptychref2_Parse_ok (s_1 : Str) (R : (api_Node × Int)) (hh : diptychref2_Parse s_1 = some R) : PC Tryd.prog 23 [.str s_1] (.tup [.agg [.str R.1.Kind, .str R.1.Text, .list 1 (R.1.Marks.map PV.str), .list 2 (R.1.Attrs.map api_Attr.pv), .list 5 (R.1.Kids.map api_Node.pv)], .int .i64 R.2]) := by
  rw [diptychref2_Parse] at hh
  refine start_diptychref2_Parse rfl ?_
  refine awp_first fun K kk hK => ?_
  simp only [go_sem]
  refine hK _ _ fun nx => ?_; clear hK K; try clear kk
  refine awp_first fun K kk hK => ?_
  simp only [go_sem]
  refine hK _ _ fun nx => ?_; clear hK K; try clear kk
  obtain ⟨⟨r_2, reader_3⟩, h1, hh⟩ := bind_ex hh
  dsimp only at hh
  refine awp_first fun K kk hK => ?_
  simp only [go_sem]
  refine step_callC [9] (by decide) (diptychref2_Reader_Node_x_ok _ _ h1) (by (try simp only [go_sem]) <;> exact wkb) (by rfl) ?_
  simp only [go_sem]
  refine hK _ _ fun nx => ?_; clear hK K; try clear kk
  refine awp_seq ?_
  by_cases h2 : (reader_3.Bad) = true
  · rw [if_pos h2] at hh
    refine awp_first fun K kk hK => ?_
    simp only [go_sem, h2, h2]
    (repeat refine sd ?_)
    refine hK _ _ fun nx => ?_; clear hK K; try clear kk
    refine awp_true rfl ?_
    refine awp_first fun K kk hK => ?_
    simp only [go_sem]
    refine hK _ _ fun nx => ?_; clear hK K; try clear kk
    refine awp_ret ?_; refine nmx ?_
    obtain hR := Option.some.inj hh
    subst hR
    exact ret_p2
  · rw [if_neg h2] at hh
    replace h2 := Bool.eq_false_iff.mpr h2
    by_cases h3 : (reader_3.At != (s_1.length : Int)) = true
    · rw [if_pos h3] at hh
      refine awp_first fun K kk hK => ?_
      simp only [go_sem, h2, h2, h3, h3]
      (repeat refine sd ?_)
      refine hK _ _ fun nx => ?_; clear hK K; try clear kk
      refine awp_true rfl ?_
      refine awp_first fun K kk hK => ?_
      simp only [go_sem]
      refine hK _ _ fun nx => ?_; clear hK K; try clear kk
      refine awp_ret ?_; refine nmx ?_
      obtain hR := Option.some.inj hh
      subst hR
      exact ret_p2
    · rw [if_neg h3] at hh
      replace h3 := Bool.eq_false_iff.mpr h3
      obtain ⟨write_4, h4, hh⟩ := bind_ex hh
      by_cases h5 : (!(write_4 == s_1)) = true
      · rw [if_pos h5] at hh
        refine awp_first fun K kk hK => ?_
        simp only [go_sem, h2, h2, h3, h3, h5, h5]
        (repeat refine sd ?_)
        refine step_call2 (diptychref2_Write_ok _ _ h4) (by (try simp only [go_sem, h2, h2, h3, h3, h5, h5]) <;> exact wkl) (by rfl) (by rfl) ?_
        simp only [go_sem, h2, h2, h3, h3, h5, h5]
        (repeat refine sd ?_)
        refine hK _ _ fun nx => ?_; clear hK K; try clear kk
        refine awp_true rfl ?_
        refine awp_first fun K kk hK => ?_
        simp only [go_sem]
        refine hK _ _ fun nx => ?_; clear hK K; try clear kk
        refine awp_ret ?_; refine nmx ?_
        obtain hR := Option.some.inj hh
        subst hR
        exact ret_p2
      · rw [if_neg h5] at hh
        replace h5 := Bool.eq_false_iff.mpr h5
        obtain ⟨formed_5, h6, hh⟩ := bind_ex hh
        refine awp_first fun K kk hK => ?_
        simp only [go_sem, h2, h2, h3, h3, h5, h5]
        (repeat refine sd ?_)
        refine step_call2 (diptychref2_Write_ok _ _ h4) (by (try simp only [go_sem, h2, h2, h3, h3, h5, h5]) <;> exact wkl) (by rfl) (by rfl) ?_
        simp only [go_sem, h2, h2, h3, h3, h5, h5]
        (repeat refine sd ?_)
        refine step_call2 (diptychref1_Formed_ok _ _ h6) (by (try simp only [go_sem, h2, h2, h3, h3, h5, h5]) <;> exact wkl) (by rfl) (by rfl) ?_
        simp only [go_sem, h2, h2, h3, h3, h5, h5]
        (repeat refine sd ?_)
        refine hK _ _ fun nx => ?_; clear hK K; try clear kk
        by_cases h7 : (!formed_5) = true
        · rw [if_pos h7] at hh
          refine awp_true (by first | exact congrArg PV.bool h7 | rfl) ?_
          refine awp_first fun K kk hK => ?_
          simp only [go_sem]
          refine hK _ _ fun nx => ?_; clear hK K; try clear kk
          refine awp_ret ?_; refine nmx ?_
          obtain hR := Option.some.inj hh
          subst hR
          exact ret_p2
        · rw [if_neg h7] at hh
          replace h7 := Bool.eq_false_iff.mpr h7
          refine awp_false (by first | exact congrArg PV.bool h7 | rfl) ?_
          refine awp_skip ?_; refine nmx ?_
          obtain ⟨check_6, h8, hh⟩ := bind_ex hh
          refine awp_first fun K kk hK => ?_
          simp only [go_sem]
          refine step_call2 (diptychref1_Check_ok _ _ h8) (by (try simp only [go_sem]) <;> exact wkl) (by rfl) (by rfl) ?_
          simp only [go_sem]
          refine hK _ _ fun nx => ?_; clear hK K; try clear kk
          refine awp_seq ?_
          refine awp_first fun K kk hK => ?_
          simp only [go_sem]
          refine hK _ _ fun nx => ?_; clear hK K; try clear kk
          by_cases h9 : (check_6 != (0 : Int)) = true
          · rw [if_pos h9] at hh
            refine awp_true (by first | exact congrArg PV.bool h9 | rfl) ?_
            refine awp_first fun K kk hK => ?_
            simp only [go_sem]
            refine hK _ _ fun nx => ?_; clear hK K; try clear kk
            refine awp_ret ?_; refine nmx ?_
            obtain hR := Option.some.inj hh
            subst hR
            exact ret_p2
          · rw [if_neg h9] at hh
            replace h9 := Bool.eq_false_iff.mpr h9
            refine awp_false (by first | exact congrArg PV.bool h9 | rfl) ?_
            refine awp_skip ?_; refine nmx ?_
            refine awp_first fun K kk hK => ?_
            simp only [go_sem]
            refine hK _ _ fun nx => ?_; clear hK K; try clear kk
            refine awp_ret ?_; refine nmx ?_
            obtain hR := Option.some.inj hh
            subst hR
            exact ret_p2
theorem codec_ParseAll_ok (s_1 : Str) (R : ((List api_Node) × Int)) (hh : codec_ParseAll s_1 = some R) : PC Tryd.prog 24 [.str s_1] (.tup [.list 5 (R.1.map api_Node.pv), .int .i64 R.2]) := by
  rw [codec_ParseAll] at hh
  refine start_codec_ParseAll rfl ?_
  refine awp_first fun K kk hK => ?_
  simp only [go_sem]
  refine hK _ _ fun nx => ?_; clear hK K; try clear kk
  obtain ⟨h1, hh⟩ := chk_some hh
  obtain ⟨h2, hh⟩ := chk_some hh
  obtain ⟨⟨r_2, r_3⟩, h3, hh⟩ := bind_ex hh
  dsimp only at hh
  refine awp_first fun K kk hK => ?_
  simp only [go_sem, h1, h2]
  (repeat refine sd ?_)
  refine step_call2 (codec_Parse_ok _ _ h3) (by (try simp only [go_sem, h1, h2]) <;> exact wkl) (by rfl) (by rfl) ?_
  simp only [go_sem, h1, h2]
  (repeat refine sd ?_)
  refine hK _ _ fun nx => ?_; clear hK K; try clear kk
  refine awp_first fun K kk hK => ?_
  simp only [go_sem]
  refine hK _ _ fun nx => ?_; clear hK K; try clear kk
  refine awp_ret ?_; refine nmx ?_
  obtain hR := Option.some.inj hh
  subst hR
  exact ret_p2
theorem diptychref2_ParseAll_ok (s_1 : Str) (R : ((List api_Node) × Int)) (hh : diptychref2_ParseAll s_1 = some R) : PC Tryd.prog 25 [.str s_1] (.tup [.list 5 (R.1.map api_Node.pv), .int .i64 R.2]) := by
  rw [diptychref2_ParseAll] at hh
  refine start_diptychref2_ParseAll rfl ?_
  refine awp_first fun K kk hK => ?_
  simp only [go_sem]
  refine hK _ _ fun nx => ?_; clear hK K; try clear kk
  obtain ⟨h1, hh⟩ := chk_some hh
  obtain ⟨h2, hh⟩ := chk_some hh
  obtain ⟨⟨r_2, r_3⟩, h3, hh⟩ := bind_ex hh
  dsimp only at hh
  refine awp_first fun K kk hK => ?_
  simp only [go_sem, h1, h2]
  (repeat refine sd ?_)
  refine step_call2 (diptychref2_Parse_ok _ _ h3) (by (try simp only [go_sem, h1, h2]) <;> exact wkl) (by rfl) (by rfl) ?_
  simp only [go_sem, h1, h2]
  (repeat refine sd ?_)
  refine hK _ _ fun nx => ?_; clear hK K; try clear kk
  refine awp_first fun K kk hK => ?_
  simp only [go_sem]
  refine hK _ _ fun nx => ?_; clear hK K; try clear kk
  refine awp_ret ?_; refine nmx ?_
  obtain hR := Option.some.inj hh
  subst hR
  exact ret_p2
theorem diptychref1_SameAll_grp : ∀ kr : Nat, (∀ (a_1 : (List api_Node)) (b_2 : (List api_Node)) (R : Bool), diptychref1_SameAll_k kr a_1 b_2 = some R → PC Tryd.prog 27 [.list 5 (a_1.map api_Node.pv), .list 5 (b_2.map api_Node.pv)] (.bool R)) ∧
    (∀ (a_1 : api_Node) (b_2 : api_Node) (R : Bool), diptychref1_Same_k kr a_1 b_2 = some R → PC Tryd.prog 26 [.agg [.str a_1.Kind, .str a_1.Text, .list 1 (a_1.Marks.map PV.str), .list 2 (a_1.Attrs.map api_Attr.pv), .list 5 (a_1.Kids.map api_Node.pv)], .agg [.str b_2.Kind, .str b_2.Text, .list 1 (b_2.Marks.map PV.str), .list 2 (b_2.Attrs.map api_Attr.pv), .list 5 (b_2.Kids.map api_Node.pv)]] (.bool R)) := by
  intro kr
  induction kr with
  | zero => exact ⟨(by intro a_1 b_2 R hh; rw [diptychref1_SameAll_k] at hh; cases hh), (by intro a_1 b_2 R hh; rw [diptychref1_Same_k] at hh; cases hh)⟩
  | succ kr ih =>
    obtain ⟨ih_diptychref1_SameAll, ih_diptychref1_Same⟩ := ih
    refine ⟨?_, ?_⟩
    · intro a_1 b_2 R hh
      rw [diptychref1_SameAll_k] at hh
      refine start_diptychref1_SameAll rfl ?_
      refine awp_first fun K kk hK => ?_
      simp only [go_sem]
      refine hK _ _ fun nx => ?_; clear hK K; try clear kk
      refine awp_seq ?_
      refine awp_first fun K kk hK => ?_
      simp only [go_sem]
      refine hK _ _ fun nx => ?_; clear hK K; try clear kk
      by_cases h1 : ((a_1.length : Int) != (b_2.length : Int)) = true
      · rw [if_pos h1] at hh
        refine awp_true (by first | exact congrArg PV.bool h1 | rfl) ?_
        refine awp_first fun K kk hK => ?_
        simp only [go_sem]
        refine hK _ _ fun nx => ?_; clear hK K; try clear kk
        refine awp_ret ?_; refine nmx ?_
        obtain hR := Option.some.inj hh
        subst hR
        exact ret_p2
      · rw [if_neg h1] at hh
        replace h1 := Bool.eq_false_iff.mpr h1
        refine awp_false (by first | exact congrArg PV.bool h1 | rfl) ?_
        refine awp_skip ?_; refine nmx ?_
        refine awp_seq ?_
        refine awp_first fun K kk hK => ?_
        simp only [go_sem]
        refine hK _ _ fun nx => ?_; clear hK K; try clear kk
        obtain ⟨e0, f0, hh⟩ := bind_ex hh
        obtain ⟨hlen0, f0⟩ := chk_some f0
        refine awp_fragE (CutTo (fun s => .inr () = e0 ∧ ∃ (i_14 : Int) (v_15 : Bool) (nx : Nat), s = ⟨[(0, .list 5 (a_1.map api_Node.pv)), (1, .list 5 (b_2.map api_Node.pv)), (5, .int .i64 i_14), (14, .bool v_15)], [], nx⟩))
          (fun i s => False)
          (fun s => ∃ res_13, .inl res_13 = e0 ∧ bodyR Tryd.prog [.tmp 4] (.bool res_13) [] .ret s) ?_ ?_ ?_ ?_
        · refine awp_block ?_
          refine awp_loopJ fun I hI => ?_
          have key : ∀ (suf pre : List api_Node) (i_6 : Int), a_1 = pre ++ suf → i_6 = (pre.length : Int) → diptychref1_SameAll_l0 b_2 (diptychref1_Same_k kr) suf i_6 = some e0 → ∀ (nx : Nat), I ⟨[(0, .list 5 (a_1.map api_Node.pv)), (1, .list 5 (b_2.map api_Node.pv)), (5, .int .i64 i_6)], [], nx⟩ := by
            intro suf
            induction suf with
            | nil =>
              intro pre i_6 hsplit hidx hh nx
              rw [diptychref1_SameAll_l0] at hh
              refine hI _ ?_
              have h12 := walk_nil hsplit hidx
              refine awp_seq ?_
              refine awp_first fun K kk hK => ?_
              simp only [go_sem]
              refine hK _ _ fun nx => ?_; clear hK K; try clear kk
              refine awp_false (by first | exact congrArg PV.bool h12 | rfl) ?_
              refine awp_exit ?_; refine nmx ?_
              refine fragN ?_
              refine cut_id ?_
              refine ⟨(Option.some.inj hh), ?_⟩
              first | exact ⟨_, _, _, rfl⟩ | (simp only [api_Attr.pv_eq, api_Node.pv_eq, codec_reader.pv_eq, diptychref2_Reader.pv_eq, pvL, List.map_cons, List.map_nil, List.map_append, rune1]; exact ⟨_, _, _, rfl⟩) | (simp only [api_Attr.pv_eq, api_Node.pv_eq, codec_reader.pv_eq, diptychref2_Reader.pv_eq, pvL, List.map_cons, List.map_nil, List.map_append, rune1, h1, h12]; exact ⟨_, _, _, rfl⟩)
            | cons y_10 suf ih =>
              intro pre i_6 hsplit hidx hh nx
              rw [diptychref1_SameAll_l0] at hh
              refine hI _ ?_
              obtain ⟨hl0a, hl0b, hl0d, hl0w, h12⟩ := walk_cons (f := api_Node.pv) hsplit hidx hlen0
              refine awp_seq ?_
              refine awp_first fun K kk hK => ?_
              simp only [go_sem]
              refine hK _ _ fun nx => ?_; clear hK K; try clear kk
              refine awp_true (by first | exact congrArg PV.bool h12 | rfl) ?_
              refine awp_skip ?_; refine nmx ?_
              refine awp_seq ?_
              refine awp_block ?_
              obtain ⟨x_11, h13, hh⟩ := bind_ex hh
              obtain ⟨h13a, h13b, h13c⟩ := rd_some h13
              have h13d := rd_get (f := api_Node.pv) h13c
              have h13f := rd_more (f := api_Node.pv) h13c
              try simp only [Int.toNat_natCast, Int.reduceToNat] at h13d h13f
              obtain ⟨same_12, h14, hh⟩ := bind_ex hh
              refine awp_first fun K kk hK => ?_
              simp only [go_sem, h13a, h13b, h13d, h13f.1, h13f.2, hl0a, hl0b, hl0d, hl0w]
              (repeat refine sd ?_)
              refine step_call2 (ih_diptychref1_Same _ _ _ h14) (by (try simp only [go_sem, h13a, h13b, h13d, h13f.1, h13f.2, hl0a, hl0b, hl0d, hl0w]) <;> exact wkl) (by rfl) (by rfl) ?_
              simp only [go_sem, h13a, h13b, h13d, h13f.1, h13f.2, hl0a, hl0b, hl0d, hl0w]
              (repeat refine sd ?_)
              refine hK _ _ fun nx => ?_; clear hK K; try clear kk
              by_cases h15 : (!same_12) = true
              · rw [if_pos h15] at hh
                refine awp_true (by first | exact congrArg PV.bool h15 | rfl) ?_
                refine awp_first fun K kk hK => ?_
                simp only [go_sem, hl0a, hl0b, hl0d, hl0w]
                refine hK _ _ fun nx => ?_; clear hK K; try clear kk
                refine awp_ret ?_; refine nmx ?_
                refine fragR ⟨_, (Option.some.inj hh), ?_⟩
                exact ret_p2
              · rw [if_neg h15] at hh
                replace h15 := Bool.eq_false_iff.mpr h15
                refine awp_false (by first | exact congrArg PV.bool h15 | rfl) ?_
                refine awp_skip ?_; refine nmx ?_
                refine awp_region fun K kk hK => ?_
                simp only [go_sem, hl0a, hl0b, hl0d, hl0w]
                refine hK _ _ fun nx => ?_; clear hK K; try clear kk
                refine nmx ?_
                have ih' := ih (pre ++ [y_10]) (i_6 + 1) (by rw [hsplit]; simp) (by simp [hidx]) hh nx
                refine cut_id ?_
                first | exact ih' | (simp only [api_Attr.pv_eq, api_Node.pv_eq, codec_reader.pv_eq, diptychref2_Reader.pv_eq, pvL, List.map_cons, List.map_nil, List.map_append, rune1] at ih' ⊢; exact ih') | (simp only [api_Attr.pv_eq, api_Node.pv_eq, codec_reader.pv_eq, diptychref2_Reader.pv_eq, pvL, List.map_cons, List.map_nil, List.map_append, rune1, h1, h12, h15] at ih' ⊢; exact ih')
          exact key a_1 [] _ rfl rfl f0 _
        · rintro s ⟨t, hless, rfl, i_14, v_15, nx, rfl⟩
          try dsimp only at hh
          refine nmy ?_
          first | (refine cut_less hless ?_; try refine cut_awp ?_) | refine frag_less hless ?_ | refine body_less hless ?_
          refine awp_first fun K kk hK => ?_
          simp only [go_sem]
          refine hK _ _ fun nx => ?_; clear hK K; try clear kk
          refine awp_ret ?_; refine nmx ?_
          obtain hR := Option.some.inj hh
          subst hR
          exact ret_p2
        · intro i s h; exact h.elim
        · rintro s ⟨res_13, rfl, hb⟩
          try dsimp only at hh
          obtain hR := Option.some.inj hh
          subst hR
          refine nmx ?_
          exact hb
    · intro a_1 b_2 R hh
      rw [diptychref1_Same_k] at hh
      refine start_diptychref1_Same rfl ?_
      refine awp_first fun K kk hK => ?_
      simp only [go_sem]
      refine hK _ _ fun nx => ?_; clear hK K; try clear kk
      refine awp_seq ?_
      by_cases h1 : (!(a_1.Kind == b_2.Kind)) = true
      · rw [if_pos h1] at hh
        refine awp_first fun K kk hK => ?_
        simp only [go_sem, h1, h1]
        (repeat refine sd ?_)
        refine hK _ _ fun nx => ?_; clear hK K; try clear kk
        refine awp_true rfl ?_
        refine awp_first fun K kk hK => ?_
        simp only [go_sem]
        refine hK _ _ fun nx => ?_; clear hK K; try clear kk
        refine awp_ret ?_; refine nmx ?_
        obtain hR := Option.some.inj hh
        subst hR
        exact ret_p2
      · rw [if_neg h1] at hh
        replace h1 := Bool.eq_false_iff.mpr h1
        by_cases h2 : (!(a_1.Text == b_2.Text)) = true
        · rw [if_pos h2] at hh
          refine awp_first fun K kk hK => ?_
          simp only [go_sem, h1, h1, h2, h2]
          (repeat refine sd ?_)
          refine hK _ _ fun nx => ?_; clear hK K; try clear kk
          refine awp_true rfl ?_
          refine awp_first fun K kk hK => ?_
          simp only [go_sem]
          refine hK _ _ fun nx => ?_; clear hK K; try clear kk
          refine awp_ret ?_; refine nmx ?_
          obtain hR := Option.some.inj hh
          subst hR
          exact ret_p2
        · rw [if_neg h2] at hh
          replace h2 := Bool.eq_false_iff.mpr h2
          obtain ⟨samena_3, h3, hh⟩ := bind_ex hh
          by_cases h4 : (!samena_3) = true
          · rw [if_pos h4] at hh
            refine awp_first fun K kk hK => ?_
            simp only [go_sem, h1, h1, h2, h2, h4, h4]
            (repeat refine sd ?_)
            refine step_call2 (diptychref1_sameNames_ok _ _ _ h3) (by (try simp only [go_sem, h1, h1, h2, h2, h4, h4]) <;> exact wkl) (by rfl) (by rfl) ?_
            simp only [go_sem, h1, h1, h2, h2, h4, h4]
            (repeat refine sd ?_)
            refine hK _ _ fun nx => ?_; clear hK K; try clear kk
            refine awp_true rfl ?_
            refine awp_first fun K kk hK => ?_
            simp only [go_sem]
            refine hK _ _ fun nx => ?_; clear hK K; try clear kk
            refine awp_ret ?_; refine nmx ?_
            obtain hR := Option.some.inj hh
            subst hR
            exact ret_p2
          · rw [if_neg h4] at hh
            replace h4 := Bool.eq_false_iff.mpr h4
            refine awp_first fun K kk hK => ?_
            simp only [go_sem, h1, h1, h2, h2, h4, h4]
            (repeat refine sd ?_)
            refine step_call2 (diptychref1_sameNames_ok _ _ _ h3) (by (try simp only [go_sem, h1, h1, h2, h2, h4, h4]) <;> exact wkl) (by rfl) (by rfl) ?_
            simp only [go_sem, h1, h1, h2, h2, h4, h4]
            (repeat refine sd ?_)
            refine hK _ _ fun nx => ?_; clear hK K; try clear kk
            by_cases h5 : ((a_1.Attrs.length : Int) != (b_2.Attrs.length : Int)) = true
            · rw [if_pos h5] at hh
              refine awp_true (by first | exact congrArg PV.bool h5 | rfl) ?_
              refine awp_first fun K kk hK => ?_
              simp only [go_sem]
              refine hK _ _ fun nx => ?_; clear hK K; try clear kk
              refine awp_ret ?_; refine nmx ?_
              obtain hR := Option.some.inj hh
              subst hR
              exact ret_p2
            · rw [if_neg h5] at hh
              replace h5 := Bool.eq_false_iff.mpr h5
              refine awp_false (by first | exact congrArg PV.bool h5 | rfl) ?_
              refine awp_skip ?_; refine nmx ?_
              refine awp_seq ?_
              refine awp_first fun K kk hK => ?_
              simp only [go_sem]
              refine hK _ _ fun nx => ?_; clear hK K; try clear kk
              obtain ⟨e0, f0, hh⟩ := bind_ex hh
              obtain ⟨hlen0, f0⟩ := chk_some f0
              refine awp_fragE (CutTo (fun s => .inr () = e0 ∧ ∃ (i_12 : Int) (v_13 : Bool) (nx : Nat) (g2 : Nat) (g3 : Nat), s = ⟨[(2, .box 2 g2 0), (3, .box 3 g3 0), (5, .int .i64 i_12), (39, .bool v_13)], [(2, g2, .var 26 [.str a_1.Kind, .str a_1.Text, .list 1 (a_1.Marks.map PV.str), .list 2 (a_1.Attrs.map api_Attr.pv), .list 5 (a_1.Kids.map api_Node.pv)]), (3, g3, .var 26 [.str b_2.Kind, .str b_2.Text, .list 1 (b_2.Marks.map PV.str), .list 2 (b_2.Attrs.map api_Attr.pv), .list 5 (b_2.Kids.map api_Node.pv)])], nx⟩))
                (fun i s => False)
                (fun s => ∃ res_11, .inl res_11 = e0 ∧ bodyR Tryd.prog [.tmp 4] (.bool res_11) [] .ret s) ?_ ?_ ?_ ?_
              · refine awp_block ?_
                refine awp_loopJ fun I hI => ?_
                have key : ∀ (suf pre : List api_Attr) (i_6 : Int), a_1.Attrs = pre ++ suf → i_6 = (pre.length : Int) → diptychref1_Same_l0 b_2 suf i_6 = some e0 → ∀ (nx : Nat) (g2 : Nat) (g3 : Nat), I ⟨[(2, .box 2 g2 0), (3, .box 3 g3 0), (5, .int .i64 i_6)], [(2, g2, .var 26 [.str a_1.Kind, .str a_1.Text, .list 1 (a_1.Marks.map PV.str), .list 2 (a_1.Attrs.map api_Attr.pv), .list 5 (a_1.Kids.map api_Node.pv)]), (3, g3, .var 26 [.str b_2.Kind, .str b_2.Text, .list 1 (b_2.Marks.map PV.str), .list 2 (b_2.Attrs.map api_Attr.pv), .list 5 (b_2.Kids.map api_Node.pv)])], nx⟩ := by
                  intro suf
                  induction suf with
                  | nil =>
                    intro pre i_6 hsplit hidx hh nx g2 g3
                    rw [diptychref1_Same_l0] at hh
                    refine hI _ ?_
                    have h14 := walk_nil hsplit hidx
                    refine awp_seq ?_
                    refine awp_first fun K kk hK => ?_
                    simp only [go_sem]
                    refine hK _ _ fun nx => ?_; clear hK K; try clear kk
                    refine awp_false (by first | exact congrArg PV.bool h14 | rfl) ?_
                    refine awp_exit ?_; refine nmx ?_
                    refine fragN ?_
                    refine cut_id ?_
                    refine ⟨(Option.some.inj hh), ?_⟩
                    first | exact ⟨_, _, _, _, _, rfl⟩ | (simp only [api_Attr.pv_eq, api_Node.pv_eq, codec_reader.pv_eq, diptychref2_Reader.pv_eq, pvL, List.map_cons, List.map_nil, List.map_append, rune1]; exact ⟨_, _, _, _, _, rfl⟩) | (simp only [api_Attr.pv_eq, api_Node.pv_eq, codec_reader.pv_eq, diptychref2_Reader.pv_eq, pvL, List.map_cons, List.map_nil, List.map_append, rune1, h1, h14, h2, h4, h5]; exact ⟨_, _, _, _, _, rfl⟩)
                  | cons y_9 suf ih =>
                    intro pre i_6 hsplit hidx hh nx g2 g3
                    rw [diptychref1_Same_l0] at hh
                    refine hI _ ?_
                    obtain ⟨hl0a, hl0b, hl0d, hl0w, h14⟩ := walk_cons (f := api_Attr.pv) hsplit hidx hlen0
                    refine awp_seq ?_
                    refine awp_first fun K kk hK => ?_
                    simp only [go_sem]
                    refine hK _ _ fun nx => ?_; clear hK K; try clear kk
                    refine awp_true (by first | exact congrArg PV.bool h14 | rfl) ?_
                    refine awp_skip ?_; refine nmx ?_
                    refine awp_seq ?_
                    refine awp_block ?_
                    obtain ⟨x_10, h15, hh⟩ := bind_ex hh
                    obtain ⟨h15a, h15b, h15c⟩ := rd_some h15
                    have h15d := rd_get (f := api_Attr.pv) h15c
                    have h15f := rd_more (f := api_Attr.pv) h15c
                    try simp only [Int.toNat_natCast, Int.reduceToNat] at h15d h15f
                    refine awp_first fun K kk hK => ?_
                    simp only [go_sem, h15a, h15b, h15d, h15f.1, h15f.2, hl0a, hl0b, hl0d, hl0w]
                    (repeat refine sd ?_)
                    refine hK _ _ fun nx => ?_; clear hK K; try clear kk
                    by_cases h16 : ((((y_9.Name == x_10.Name) && (y_9.Value == x_10.Value)) != true)) = true
                    · rw [if_pos h16] at hh
                      refine awp_true (by first | exact congrArg PV.bool h16 | rfl) ?_
                      refine awp_first fun K kk hK => ?_
                      simp only [go_sem, hl0a, hl0b, hl0d, hl0w]
                      refine hK _ _ fun nx => ?_; clear hK K; try clear kk
                      refine awp_ret ?_; refine nmx ?_
                      refine fragR ⟨_, (Option.some.inj hh), ?_⟩
                      exact ret_p2
                    · rw [if_neg h16] at hh
                      replace h16 := Bool.eq_false_iff.mpr h16
                      refine awp_false (by first | exact congrArg PV.bool h16 | rfl) ?_
                      refine awp_skip ?_; refine nmx ?_
                      refine awp_region fun K kk hK => ?_
                      simp only [go_sem, hl0a, hl0b, hl0d, hl0w]
                      refine hK _ _ fun nx => ?_; clear hK K; try clear kk
                      refine nmx ?_
                      have ih' := ih (pre ++ [y_9]) (i_6 + 1) (by rw [hsplit]; simp) (by simp [hidx]) hh nx
                      refine cut_id ?_
                      first | exact ih' _ _ | (simp only [api_Attr.pv_eq, api_Node.pv_eq, codec_reader.pv_eq, diptychref2_Reader.pv_eq, pvL, List.map_cons, List.map_nil, List.map_append, rune1] at ih' ⊢; exact ih' _ _) | (simp only [api_Attr.pv_eq, api_Node.pv_eq, codec_reader.pv_eq, diptychref2_Reader.pv_eq, pvL, List.map_cons, List.map_nil, List.map_append, rune1, h1, h14, h16, h2, h4, h5] at ih' ⊢; exact ih' _ _)
                exact key a_1.Attrs [] _ rfl rfl f0 _ _ _
              · rintro s ⟨t, hless, rfl, i_12, v_13, nx, g2, g3, rfl⟩
                try dsimp only at hh
                refine nmy ?_
                first | (refine cut_less hless ?_; try refine cut_awp ?_) | refine frag_less hless ?_ | refine body_less hless ?_
                obtain ⟨sameal_14, h17, hh⟩ := bind_ex hh
                refine awp_first fun K kk hK => ?_
                simp only [go_sem]
                refine step_call2 (ih_diptychref1_SameAll _ _ _ h17) (by (try simp only [go_sem]) <;> exact wkl) (by rfl) (by rfl) ?_
                simp only [go_sem]
                refine hK _ _ fun nx => ?_; clear hK K; try clear kk
                refine awp_ret ?_; refine nmx ?_
                obtain hR := Option.some.inj hh
                subst hR
                exact ret_p2
              · intro i s h; exact h.elim
              · rintro s ⟨res_11, rfl, hb⟩
                try dsimp only at hh
                obtain hR := Option.some.inj hh
                subst hR
                refine nmx ?_
                exact hb
theorem diptychref1_SameAll_ok (a_1 : (List api_Node)) (b_2 : (List api_Node)) (R : Bool) (hh : diptychref1_SameAll a_1 b_2 = some R) : PC Tryd.prog 27 [.list 5 (a_1.map api_Node.pv), .list 5 (b_2.map api_Node.pv)] (.bool R) := by
  rw [diptychref1_SameAll] at hh
  obtain ⟨kr, hh⟩ := lim_some hh
  exact (diptychref1_SameAll_grp kr).1 _ _ _ hh
theorem diptychref1_Same_ok (a_1 : api_Node) (b_2 : api_Node) (R : Bool) (hh : diptychref1_Same a_1 b_2 = some R) : PC Tryd.prog 26 [.agg [.str a_1.Kind, .str a_1.Text, .list 1 (a_1.Marks.map PV.str), .list 2 (a_1.Attrs.map api_Attr.pv), .list 5 (a_1.Kids.map api_Node.pv)], .agg [.str b_2.Kind, .str b_2.Text, .list 1 (b_2.Marks.map PV.str), .list 2 (b_2.Attrs.map api_Attr.pv), .list 5 (b_2.Kids.map api_Node.pv)]] (.bool R) := by
  rw [diptychref1_Same] at hh
  obtain ⟨kr, hh⟩ := lim_some hh
  exact (diptychref1_SameAll_grp kr).2 _ _ _ hh
theorem diptychlaw2_CodecParses_ok (s_1 : Str) (R : Bool) (hh : diptychlaw2_CodecParses s_1 = some R) : PC Tryd.prog 5 [.str s_1] (.bool R) := by
  rw [diptychlaw2_CodecParses] at hh
  refine start_diptychlaw2_CodecParses rfl ?_
  refine awp_first fun K kk hK => ?_
  simp only [go_sem]
  refine hK _ _ fun nx => ?_; clear hK K; try clear kk
  obtain ⟨shown_2, h1, hh⟩ := bind_ex hh
  refine awp_first fun K kk hK => ?_
  simp only [go_sem]
  refine step_call2 (diptychlaw2_shown_ok _ h1) (by (try simp only [go_sem]) <;> exact wkl) (by rfl) (by rfl) ?_
  simp only [go_sem]
  refine hK _ _ fun nx => ?_; clear hK K; try clear kk
  refine awp_seq ?_
  by_cases h2 : (!shown_2) = true
  · rw [if_pos h2] at hh
    refine awp_first fun K kk hK => ?_
    simp only [go_sem, h2, h2]
    (repeat refine sd ?_)
    refine hK _ _ fun nx => ?_; clear hK K; try clear kk
    refine awp_true rfl ?_
    refine awp_first fun K kk hK => ?_
    simp only [go_sem]
    refine hK _ _ fun nx => ?_; clear hK K; try clear kk
    refine awp_ret ?_; refine nmx ?_
    obtain hR := Option.some.inj hh
    subst hR
    exact ret_p2
  · rw [if_neg h2] at hh
    replace h2 := Bool.eq_false_iff.mpr h2
    refine awp_first fun K kk hK => ?_
    simp only [go_sem, h2, h2]
    (repeat refine sd ?_)
    refine hK _ _ fun nx => ?_; clear hK K; try clear kk
    by_cases h3 : (decide ((s_1.length : Int) > (1500 : Int))) = true
    · rw [if_pos h3] at hh
      refine awp_true (by first | exact congrArg PV.bool h3 | rfl) ?_
      refine awp_first fun K kk hK => ?_
      simp only [go_sem]
      refine hK _ _ fun nx => ?_; clear hK K; try clear kk
      refine awp_ret ?_; refine nmx ?_
      obtain hR := Option.some.inj hh
      subst hR
      exact ret_p2
    · rw [if_neg h3] at hh
      replace h3 := Bool.eq_false_iff.mpr h3
      refine awp_false (by first | exact congrArg PV.bool h3 | rfl) ?_
      refine awp_skip ?_; refine nmx ?_
      obtain ⟨⟨r_3, r_4⟩, h4, hh⟩ := bind_ex hh
      dsimp only at hh
      refine awp_first fun K kk hK => ?_
      simp only [go_sem]
      refine step_call2 (codec_Parse_ok _ _ h4) (by (try simp only [go_sem]) <;> exact wkl) (by rfl) (by rfl) ?_
      simp only [go_sem]
      refine hK _ _ fun nx => ?_; clear hK K; try clear kk
      obtain ⟨⟨r_5, r_6⟩, h5, hh⟩ := bind_ex hh
      dsimp only at hh
      refine awp_first fun K kk hK => ?_
      simp only [go_sem]
      refine step_call2 (diptychref2_Parse_ok _ _ h5) (by (try simp only [go_sem]) <;> exact wkl) (by rfl) (by rfl) ?_
      simp only [go_sem]
      refine hK _ _ fun nx => ?_; clear hK K; try clear kk
      obtain ⟨⟨r_7, r_8⟩, h6, hh⟩ := bind_ex hh
      dsimp only at hh
      refine awp_first fun K kk hK => ?_
      simp only [go_sem]
      refine step_call2 (codec_ParseAll_ok _ _ h6) (by (try simp only [go_sem]) <;> exact wkl) (by rfl) (by rfl) ?_
      simp only [go_sem]
      refine hK _ _ fun nx => ?_; clear hK K; try clear kk
      obtain ⟨⟨r_9, r_10⟩, h7, hh⟩ := bind_ex hh
      dsimp only at hh
      refine awp_first fun K kk hK => ?_
      simp only [go_sem]
      refine step_call2 (diptychref2_ParseAll_ok _ _ h7) (by (try simp only [go_sem]) <;> exact wkl) (by rfl) (by rfl) ?_
      simp only [go_sem]
      refine hK _ _ fun nx => ?_; clear hK K; try clear kk
      obtain ⟨same_11, h8, hh⟩ := bind_ex hh
      by_cases h9 : (same_11) = true
      · rw [if_pos h9] at hh
        by_cases h10 : (r_4 == r_6) = true
        · rw [if_pos h10] at hh
          obtain ⟨sameal_12, h11, hh⟩ := bind_ex hh
          by_cases h12 : (sameal_12) = true
          · rw [if_pos h12] at hh
            refine awp_first fun K kk hK => ?_
            simp only [go_sem, h9, h9, h10, h10, h12, h12]
            (repeat refine sd ?_)
            refine step_call2 (diptychref1_Same_ok _ _ _ h8) (by (try simp only [go_sem, h9, h9, h10, h10, h12, h12]) <;> exact wkl) (by rfl) (by rfl) ?_
            simp only [go_sem, h9, h9, h10, h10, h12, h12]
            (repeat refine sd ?_)
            refine step_call2 (diptychref1_SameAll_ok _ _ _ h11) (by (try simp only [go_sem, h9, h9, h10, h10, h12, h12]) <;> exact wkl) (by rfl) (by rfl) ?_
            simp only [go_sem, h9, h9, h10, h10, h12, h12]
            (repeat refine sd ?_)
            refine hK _ _ fun nx => ?_; clear hK K; try clear kk
            refine awp_ret ?_; refine nmx ?_
            obtain hR := Option.some.inj hh
            subst hR
            exact ret_p2
          · rw [if_neg h12] at hh
            replace h12 := Bool.eq_false_iff.mpr h12
            refine awp_first fun K kk hK => ?_
            simp only [go_sem, h9, h9, h10, h10, h12, h12]
            (repeat refine sd ?_)
            refine step_call2 (diptychref1_Same_ok _ _ _ h8) (by (try simp only [go_sem, h9, h9, h10, h10, h12, h12]) <;> exact wkl) (by rfl) (by rfl) ?_
            simp only [go_sem, h9, h9, h10, h10, h12, h12]
            (repeat refine sd ?_)
            refine step_call2 (diptychref1_SameAll_ok _ _ _ h11) (by (try simp only [go_sem, h9, h9, h10, h10, h12, h12]) <;> exact wkl) (by rfl) (by rfl) ?_
            simp only [go_sem, h9, h9, h10, h10, h12, h12]
            (repeat refine sd ?_)
            refine hK _ _ fun nx => ?_; clear hK K; try clear kk
            refine awp_ret ?_; refine nmx ?_
            obtain hR := Option.some.inj hh
            subst hR
            exact ret_p2
        · rw [if_neg h10] at hh
          replace h10 := Bool.eq_false_iff.mpr h10
          refine awp_first fun K kk hK => ?_
          simp only [go_sem, h9, h9, h10, h10]
          (repeat refine sd ?_)
          refine step_call2 (diptychref1_Same_ok _ _ _ h8) (by (try simp only [go_sem, h9, h9, h10, h10]) <;> exact wkl) (by rfl) (by rfl) ?_
          simp only [go_sem, h9, h9, h10, h10]
          (repeat refine sd ?_)
          refine hK _ _ fun nx => ?_; clear hK K; try clear kk
          refine awp_ret ?_; refine nmx ?_
          obtain hR := Option.some.inj hh
          subst hR
          exact ret_p2
      · rw [if_neg h9] at hh
        replace h9 := Bool.eq_false_iff.mpr h9
        refine awp_first fun K kk hK => ?_
        simp only [go_sem, h9, h9]
        (repeat refine sd ?_)
        refine step_call2 (diptychref1_Same_ok _ _ _ h8) (by (try simp only [go_sem, h9, h9]) <;> exact wkl) (by rfl) (by rfl) ?_
        simp only [go_sem, h9, h9]
        (repeat refine sd ?_)
        refine hK _ _ fun nx => ?_; clear hK K; try clear kk
        refine awp_ret ?_; refine nmx ?_
        obtain hR := Option.some.inj hh
        subst hR
        exact ret_p2

end Go.Proofs.YtihndopckmdpbaaDoor
