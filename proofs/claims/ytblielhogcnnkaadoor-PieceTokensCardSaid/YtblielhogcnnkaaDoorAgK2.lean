/- What the functions answer, the program answers (2). -/
import Derived.Test.YtblielhogcnnkaaDoorAgC
import Derived.Test.YtblielhogcnnkaaDoorAgF
import Derived.Test.YtblielhogcnnkaaDoorAgK0
import Derived.Test.YtblielhogcnnkaaDoorAgK1
namespace Go.Proofs.YtblielhogcnnkaaDoor
set_option linter.unusedSimpArgs false
set_option linter.unusedVariables false
open Go
set_option maxRecDepth 100000

theorem node_rise_ok (l_1 : (List Str)) (R : Bool) (hh : node_rise l_1 = some R) : PC Tryd.prog 113 [.list 1 (l_1.map PV.str)] (.bool R) := by
  rw [node_rise] at hh
  refine start_node_rise rfl ?_
  refine awp_first fun K kk hK => ?_
  simp only [go_sem]
  refine hK _ _ fun nx => ?_; clear hK K; try clear kk
  refine awp_seq ?_
  refine awp_first fun K kk hK => ?_
  simp only [go_sem]
  refine hK _ _ fun nx => ?_; clear hK K; try clear kk
  obtain ⟨e0, f0, hh⟩ := bind_ex hh
  obtain ⟨hlen0, f0⟩ := chk_some f0
  refine awp_fragE (CutTo (fun s => .inr () = e0 ∧ ∃ (v_13 : Int) (v_14 : Bool) (nx : Nat), s = ⟨[(0, .list 1 (l_1.map PV.str)), (5, .list 1 (l_1.map PV.str)), (6, .int .i64 (l_1.length : Int)), (7, .int .i64 v_13), (8, .bool v_14)], [], nx⟩))
    (fun i s => False)
    (fun s => ∃ res_12, .inl res_12 = e0 ∧ bodyR Tryd.prog [.tmp 2] (.bool res_12) [] .ret s) ?_ ?_ ?_ ?_
  · refine awp_block ?_
    refine awp_loopJ fun I hI => ?_
    have key : ∀ (suf pre : List Str) (v_5 : Int), l_1 = pre ++ suf → v_5 = (pre.length : Int) → node_rise_l0 l_1 suf v_5 = some e0 → ∀ (nx : Nat), I ⟨[(0, .list 1 (l_1.map PV.str)), (5, .list 1 (l_1.map PV.str)), (6, .int .i64 (l_1.length : Int)), (7, .int .i64 v_5)], [], nx⟩ := by
      intro suf
      induction suf with
      | nil =>
        intro pre v_5 hsplit hidx hh nx
        rw [node_rise_l0] at hh
        refine hI _ ?_
        have h15 := walk_nil hsplit hidx
        refine awp_first fun K kk hK => ?_
        simp only [go_sem]
        refine hK _ _ fun nx => ?_; clear hK K; try clear kk
        refine awp_seq ?_
        refine awp_false (by first | exact congrArg PV.bool h15 | rfl) ?_
        refine awp_exit ?_; refine nmx ?_
        refine fragN ?_
        refine cut_id ?_
        refine ⟨(Option.some.inj hh), ?_⟩
        first | exact ⟨_, _, _, rfl⟩ | (simp only [diptychlaw5_Cell.pv_eq, api_Attr.pv_eq, api_Node.pv_eq, token_Token.pv_eq, piece_flat.pv_eq, place_Spot.pv_eq, diptychref4_Spot.pv_eq, pvL, List.map_cons, List.map_nil, List.map_append, rune1]; exact ⟨_, _, _, rfl⟩) | (simp only [diptychlaw5_Cell.pv_eq, api_Attr.pv_eq, api_Node.pv_eq, token_Token.pv_eq, piece_flat.pv_eq, place_Spot.pv_eq, diptychref4_Spot.pv_eq, pvL, List.map_cons, List.map_nil, List.map_append, rune1, h15]; exact ⟨_, _, _, rfl⟩)
      | cons y_9 suf ih =>
        intro pre v_5 hsplit hidx hh nx
        rw [node_rise_l0] at hh
        refine hI _ ?_
        obtain ⟨hl0a, hl0b, hl0d, hl0w, h15⟩ := walk_cons (f := PV.str) hsplit hidx hlen0
        refine awp_first fun K kk hK => ?_
        simp only [go_sem]
        refine hK _ _ fun nx => ?_; clear hK K; try clear kk
        refine awp_seq ?_
        refine awp_true (by first | exact congrArg PV.bool h15 | rfl) ?_
        refine awp_skip ?_; refine nmx ?_
        refine awp_seq ?_
        refine awp_block ?_
        refine awp_first fun K kk hK => ?_
        simp only [go_sem, hl0a, hl0b, hl0d, hl0w]
        refine hK _ _ fun nx => ?_; clear hK K; try clear kk
        obtain ⟨name_10, h16, hh⟩ := bind_ex hh
        by_cases h17 : (!name_10) = true
        · rw [if_pos h17] at hh
          refine awp_first fun K kk hK => ?_
          simp only [go_sem, h17, h17, hl0a, hl0b, hl0d, hl0w]
          (repeat refine sd ?_)
          refine step_call2 (node_Name_ok _ _ h16) (by (try simp only [go_sem, h17, h17, hl0a, hl0b, hl0d, hl0w]) <;> exact wkl) (by rfl) (by rfl) ?_
          simp only [go_sem, h17, h17, hl0a, hl0b, hl0d, hl0w]
          (repeat refine sd ?_)
          refine hK _ _ fun nx => ?_; clear hK K; try clear kk
          refine awp_true rfl ?_
          refine awp_first fun K kk hK => ?_
          simp only [go_sem, hl0a, hl0b, hl0d, hl0w]
          refine hK _ _ fun nx => ?_; clear hK K; try clear kk
          refine awp_ret ?_; refine nmx ?_
          refine fragR ⟨_, (Option.some.inj hh), ?_⟩
          exact ret_p2
        · rw [if_neg h17] at hh
          replace h17 := Bool.eq_false_iff.mpr h17
          by_cases h18 : (decide (v_5 > (0 : Int))) = true
          · rw [if_pos h18] at hh
            obtain ⟨x_11, h19, hh⟩ := bind_ex hh
            obtain ⟨h19a, h19b, h19c⟩ := rd_some h19
            have h19d := rd_get (f := PV.str) h19c
            have h19f := rd_more (f := PV.str) h19c
            try simp only [Int.toNat_natCast, Int.reduceToNat] at h19d h19f
            refine awp_first fun K kk hK => ?_
            simp only [go_sem, h17, h18, of_decide_eq_true h18, h19a, h19b, h19d, h19f.1, h19f.2, h18, of_decide_eq_true h18, h17, hl0a, hl0b, hl0d, hl0w]
            (repeat refine sd ?_)
            refine step_call2 (node_Name_ok _ _ h16) (by (try simp only [go_sem, h17, h18, of_decide_eq_true h18, h19a, h19b, h19d, h19f.1, h19f.2, h18, of_decide_eq_true h18, h17, hl0a, hl0b, hl0d, hl0w]) <;> exact wkl) (by rfl) (by rfl) ?_
            simp only [go_sem, h17, h18, of_decide_eq_true h18, h19a, h19b, h19d, h19f.1, h19f.2, h18, of_decide_eq_true h18, h17, hl0a, hl0b, hl0d, hl0w]
            (repeat refine sd ?_)
            refine hK _ _ fun nx => ?_; clear hK K; try clear kk
            by_cases h20 : ((Op.bytesLess y_9 x_11 || y_9 == x_11)) = true
            · rw [if_pos h20] at hh
              refine awp_true (by first | exact congrArg PV.bool h20 | rfl) ?_
              refine awp_first fun K kk hK => ?_
              simp only [go_sem, hl0a, hl0b, hl0d, hl0w]
              refine hK _ _ fun nx => ?_; clear hK K; try clear kk
              refine awp_ret ?_; refine nmx ?_
              refine fragR ⟨_, (Option.some.inj hh), ?_⟩
              exact ret_p2
            · rw [if_neg h20] at hh
              replace h20 := Bool.eq_false_iff.mpr h20
              refine awp_false (by first | exact congrArg PV.bool h20 | rfl) ?_
              refine awp_skip ?_; refine nmx ?_
              refine awp_region fun K kk hK => ?_
              simp only [go_sem, hl0a, hl0b, hl0d, hl0w]
              refine hK _ _ fun nx => ?_; clear hK K; try clear kk
              refine nmx ?_
              have ih' := ih (pre ++ [y_9]) (v_5 + 1) (by rw [hsplit]; simp) (by simp [hidx]) hh nx
              refine cut_id ?_
              first | exact ih' | (simp only [diptychlaw5_Cell.pv_eq, api_Attr.pv_eq, api_Node.pv_eq, token_Token.pv_eq, piece_flat.pv_eq, place_Spot.pv_eq, diptychref4_Spot.pv_eq, pvL, List.map_cons, List.map_nil, List.map_append, rune1] at ih' ⊢; exact ih') | (simp only [diptychlaw5_Cell.pv_eq, api_Attr.pv_eq, api_Node.pv_eq, token_Token.pv_eq, piece_flat.pv_eq, place_Spot.pv_eq, diptychref4_Spot.pv_eq, pvL, List.map_cons, List.map_nil, List.map_append, rune1, h15, h17, h18, h20] at ih' ⊢; exact ih')
          · rw [if_neg h18] at hh
            replace h18 := Bool.eq_false_iff.mpr h18
            refine awp_first fun K kk hK => ?_
            simp only [go_sem, h17, h18, of_decide_eq_false h18, h18, of_decide_eq_false h18, h17, hl0a, hl0b, hl0d, hl0w]
            (repeat refine sd ?_)
            refine step_call2 (node_Name_ok _ _ h16) (by (try simp only [go_sem, h17, h18, of_decide_eq_false h18, h18, of_decide_eq_false h18, h17, hl0a, hl0b, hl0d, hl0w]) <;> exact wkl) (by rfl) (by rfl) ?_
            simp only [go_sem, h17, h18, of_decide_eq_false h18, h18, of_decide_eq_false h18, h17, hl0a, hl0b, hl0d, hl0w]
            (repeat refine sd ?_)
            refine hK _ _ fun nx => ?_; clear hK K; try clear kk
            refine awp_false rfl ?_
            refine awp_skip ?_; refine nmx ?_
            refine awp_region fun K kk hK => ?_
            simp only [go_sem, hl0a, hl0b, hl0d, hl0w]
            refine hK _ _ fun nx => ?_; clear hK K; try clear kk
            refine nmx ?_
            have ih' := ih (pre ++ [y_9]) (v_5 + 1) (by rw [hsplit]; simp) (by simp [hidx]) hh nx
            refine cut_id ?_
            first | exact ih' | (simp only [diptychlaw5_Cell.pv_eq, api_Attr.pv_eq, api_Node.pv_eq, token_Token.pv_eq, piece_flat.pv_eq, place_Spot.pv_eq, diptychref4_Spot.pv_eq, pvL, List.map_cons, List.map_nil, List.map_append, rune1] at ih' ⊢; exact ih') | (simp only [diptychlaw5_Cell.pv_eq, api_Attr.pv_eq, api_Node.pv_eq, token_Token.pv_eq, piece_flat.pv_eq, place_Spot.pv_eq, diptychref4_Spot.pv_eq, pvL, List.map_cons, List.map_nil, List.map_append, rune1, h15, h17, h18] at ih' ⊢; exact ih')
    exact key l_1 [] _ rfl rfl f0 _
  · rintro s ⟨t, hless, rfl, v_13, v_14, nx, rfl⟩
    try dsimp only at hh
    refine nmy ?_
    first | (refine cut_less hless ?_; try refine cut_awp ?_) | refine frag_less hless ?_ | refine body_less hless ?_
    refine awp_first fun K kk hK => ?_
    simp only [go_sem]
    refine hK _ _ fun nx => ?_; clear hK K; try clear kk
    refine awp_ret ?_; refine nmx ?_
    obtain hR := Option.some.inj hh
    subst hR
    exact ret_p2
  · intro i s h; exact h.elim
  · rintro s ⟨res_12, rfl, hb⟩
    try dsimp only at hh
    obtain hR := Option.some.inj hh
    subst hR
    refine nmx ?_
    exact hb
theorem node_formed_grp : ∀ kr : Nat, (∀ (n_1 : api_Node) (R : Bool), node_formed_k kr n_1 = some R → PC Tryd.prog 97 [.agg [.str n_1.Kind, .str n_1.Text, .list 1 (n_1.Marks.map PV.str), .list 2 (n_1.Attrs.map api_Attr.pv), .list 5 (n_1.Kids.map api_Node.pv)]] (.bool R)) := by
  intro kr
  induction kr with
  | zero => exact (by intro n_1 R hh; rw [node_formed_k] at hh; cases hh)
  | succ kr ih =>
    have ih_node_formed := ih
    clear ih
    intro n_1 R hh
    rw [node_formed_k] at hh
    refine start_node_formed rfl ?_
    refine awp_first fun K kk hK => ?_
    simp only [go_sem]
    refine hK _ _ fun nx => ?_; clear hK K; try clear kk
    refine awp_seq ?_
    obtain ⟨istext_2, h1, hh⟩ := bind_ex hh
    refine awp_first fun K kk hK => ?_
    simp only [go_sem]
    refine step_call2 (node_isText_ok _ _ h1) (by (try simp only [go_sem]) <;> exact wkl) (by rfl) (by rfl) ?_
    simp only [go_sem]
    refine hK _ _ fun nx => ?_; clear hK K; try clear kk
    by_cases h2 : (istext_2) = true
    · rw [if_pos h2] at hh
      refine awp_true (by first | exact congrArg PV.bool h2 | rfl) ?_
      by_cases h3 : (!(n_1.Text == ([] : Str))) = true
      · rw [if_pos h3] at hh
        obtain ⟨valids_3, h4, hh⟩ := bind_ex hh
        by_cases h5 : (valids_3) = true
        · rw [if_pos h5] at hh
          obtain ⟨rise_4, h6, hh⟩ := bind_ex hh
          by_cases h7 : (rise_4) = true
          · rw [if_pos h7] at hh
            refine awp_first fun K kk hK => ?_
            simp only [go_sem, h3, h3, h5, h5, h7, h7]
            (repeat refine sd ?_)
            refine step_call2 (unicode_utf8_ValidString_ok _ _ h4) (by (try simp only [go_sem, h3, h3, h5, h5, h7, h7]) <;> exact wkl) (by rfl) (by rfl) ?_
            simp only [go_sem, h3, h3, h5, h5, h7, h7]
            (repeat refine sd ?_)
            refine step_call2 (node_rise_ok _ _ h6) (by (try simp only [go_sem, h3, h3, h5, h5, h7, h7]) <;> exact wkl) (by rfl) (by rfl) ?_
            simp only [go_sem, h3, h3, h5, h5, h7, h7]
            (repeat refine sd ?_)
            refine hK _ _ fun nx => ?_; clear hK K; try clear kk
            refine awp_ret ?_; refine nmx ?_
            obtain hR := Option.some.inj hh
            subst hR
            exact ret_p2
          · rw [if_neg h7] at hh
            replace h7 := Bool.eq_false_iff.mpr h7
            refine awp_first fun K kk hK => ?_
            simp only [go_sem, h3, h3, h5, h5, h7, h7]
            (repeat refine sd ?_)
            refine step_call2 (unicode_utf8_ValidString_ok _ _ h4) (by (try simp only [go_sem, h3, h3, h5, h5, h7, h7]) <;> exact wkl) (by rfl) (by rfl) ?_
            simp only [go_sem, h3, h3, h5, h5, h7, h7]
            (repeat refine sd ?_)
            refine step_call2 (node_rise_ok _ _ h6) (by (try simp only [go_sem, h3, h3, h5, h5, h7, h7]) <;> exact wkl) (by rfl) (by rfl) ?_
            simp only [go_sem, h3, h3, h5, h5, h7, h7]
            (repeat refine sd ?_)
            refine hK _ _ fun nx => ?_; clear hK K; try clear kk
            refine awp_ret ?_; refine nmx ?_
            obtain hR := Option.some.inj hh
            subst hR
            exact ret_p2
        · rw [if_neg h5] at hh
          replace h5 := Bool.eq_false_iff.mpr h5
          refine awp_first fun K kk hK => ?_
          simp only [go_sem, h3, h3, h5, h5]
          (repeat refine sd ?_)
          refine step_call2 (unicode_utf8_ValidString_ok _ _ h4) (by (try simp only [go_sem, h3, h3, h5, h5]) <;> exact wkl) (by rfl) (by rfl) ?_
          simp only [go_sem, h3, h3, h5, h5]
          (repeat refine sd ?_)
          refine hK _ _ fun nx => ?_; clear hK K; try clear kk
          refine awp_ret ?_; refine nmx ?_
          obtain hR := Option.some.inj hh
          subst hR
          exact ret_p2
      · rw [if_neg h3] at hh
        replace h3 := Bool.eq_false_iff.mpr h3
        refine awp_first fun K kk hK => ?_
        simp only [go_sem, h3, h3]
        (repeat refine sd ?_)
        refine hK _ _ fun nx => ?_; clear hK K; try clear kk
        refine awp_ret ?_; refine nmx ?_
        obtain hR := Option.some.inj hh
        subst hR
        exact ret_p2
    · rw [if_neg h2] at hh
      replace h2 := Bool.eq_false_iff.mpr h2
      refine awp_false (by first | exact congrArg PV.bool h2 | rfl) ?_
      refine awp_skip ?_; refine nmx ?_
      refine awp_first fun K kk hK => ?_
      simp only [go_sem]
      refine hK _ _ fun nx => ?_; clear hK K; try clear kk
      refine awp_seq ?_
      refine awp_first fun K kk hK => ?_
      simp only [go_sem]
      refine hK _ _ fun nx => ?_; clear hK K; try clear kk
      obtain ⟨e0, f0, hh⟩ := bind_ex hh
      obtain ⟨hlen0, f0⟩ := chk_some f0
      refine awp_fragE (CutTo (fun s => ∃ names_19, .inr names_19 = e0 ∧ ∃ (v_17 : Int) (v_18 : Bool) (nx : Nat) (g1 : Nat) (g3 : Nat), s = ⟨[(1, .box 1 g1 0), (3, .row 3 g3 names_19.length), (34, .list 2 (n_1.Attrs.map api_Attr.pv)), (35, .int .i64 (n_1.Attrs.length : Int)), (36, .int .i64 v_17), (37, .bool v_18)], [(1, g1, .var 28 [.str n_1.Kind, .str n_1.Text, .list 1 (n_1.Marks.map PV.str), .list 2 (n_1.Attrs.map api_Attr.pv), .list 5 (n_1.Kids.map api_Node.pv)]), (3, g3, .row false 1 (names_19.map PV.str))], nx⟩))
        (fun i s => False)
        (fun s => ∃ res_16, .inl res_16 = e0 ∧ bodyR Tryd.prog [.tmp 2] (.bool res_16) [] .ret s) ?_ ?_ ?_ ?_
      · refine awp_block ?_
        refine awp_loopJ fun I hI => ?_
        have key : ∀ (suf pre : List api_Attr) (v_8 : Int) (names_9 : (List Str)), n_1.Attrs = pre ++ suf → v_8 = (pre.length : Int) → node_formed_l0 suf v_8 names_9 = some e0 → ∀ (nx : Nat) (g1 : Nat) (g3 : Nat), I ⟨[(1, .box 1 g1 0), (3, .row 3 g3 names_9.length), (34, .list 2 (n_1.Attrs.map api_Attr.pv)), (35, .int .i64 (n_1.Attrs.length : Int)), (36, .int .i64 v_8)], [(1, g1, .var 28 [.str n_1.Kind, .str n_1.Text, .list 1 (n_1.Marks.map PV.str), .list 2 (n_1.Attrs.map api_Attr.pv), .list 5 (n_1.Kids.map api_Node.pv)]), (3, g3, .row false 1 (names_9.map PV.str))], nx⟩ := by
          intro suf
          induction suf with
          | nil =>
            intro pre v_8 names_9 hsplit hidx hh nx g1 g3
            rw [node_formed_l0] at hh
            refine hI _ ?_
            have h18 := walk_nil hsplit hidx
            refine awp_first fun K kk hK => ?_
            simp only [go_sem]
            refine hK _ _ fun nx => ?_; clear hK K; try clear kk
            refine awp_seq ?_
            refine awp_false (by first | exact congrArg PV.bool h18 | rfl) ?_
            refine awp_exit ?_; refine nmx ?_
            refine fragN ?_
            refine cut_id ?_
            refine ⟨_, (Option.some.inj hh), ?_⟩
            first | exact ⟨_, _, _, _, _, rfl⟩ | (simp only [diptychlaw5_Cell.pv_eq, api_Attr.pv_eq, api_Node.pv_eq, token_Token.pv_eq, piece_flat.pv_eq, place_Spot.pv_eq, diptychref4_Spot.pv_eq, pvL, List.map_cons, List.map_nil, List.map_append, rune1]; exact ⟨_, _, _, _, _, rfl⟩) | (simp only [diptychlaw5_Cell.pv_eq, api_Attr.pv_eq, api_Node.pv_eq, token_Token.pv_eq, piece_flat.pv_eq, place_Spot.pv_eq, diptychref4_Spot.pv_eq, pvL, List.map_cons, List.map_nil, List.map_append, rune1, h18, h2]; exact ⟨_, _, _, _, _, rfl⟩)
          | cons y_13 suf ih =>
            intro pre v_8 names_9 hsplit hidx hh nx g1 g3
            rw [node_formed_l0] at hh
            refine hI _ ?_
            obtain ⟨hl0a, hl0b, hl0d, hl0w, h18⟩ := walk_cons (f := api_Attr.pv) hsplit hidx hlen0
            refine awp_first fun K kk hK => ?_
            simp only [go_sem]
            refine hK _ _ fun nx => ?_; clear hK K; try clear kk
            refine awp_seq ?_
            refine awp_true (by first | exact congrArg PV.bool h18 | rfl) ?_
            refine awp_skip ?_; refine nmx ?_
            refine awp_seq ?_
            refine awp_block ?_
            refine awp_first fun K kk hK => ?_
            simp only [go_sem, hl0a, hl0b, hl0d, hl0w]
            refine hK _ _ fun nx => ?_; clear hK K; try clear kk
            refine awp_seq ?_
            obtain ⟨value_14, h19, hh⟩ := bind_ex hh
            refine awp_first fun K kk hK => ?_
            simp only [go_sem, hl0a, hl0b, hl0d, hl0w]
            refine step_call2 (node_Value_ok _ _ h19) (by (try simp only [go_sem, hl0a, hl0b, hl0d, hl0w]) <;> exact wkl) (by rfl) (by rfl) ?_
            simp only [go_sem, hl0a, hl0b, hl0d, hl0w]
            refine hK _ _ fun nx => ?_; clear hK K; try clear kk
            by_cases h20 : (!value_14) = true
            · rw [if_pos h20] at hh
              refine awp_true (by first | exact congrArg PV.bool h20 | rfl) ?_
              refine awp_first fun K kk hK => ?_
              simp only [go_sem, hl0a, hl0b, hl0d, hl0w]
              refine hK _ _ fun nx => ?_; clear hK K; try clear kk
              refine awp_ret ?_; refine nmx ?_
              refine fragR ⟨_, (Option.some.inj hh), ?_⟩
              exact ret_p2
            · rw [if_neg h20] at hh
              replace h20 := Bool.eq_false_iff.mpr h20
              refine awp_false (by first | exact congrArg PV.bool h20 | rfl) ?_
              refine awp_skip ?_; refine nmx ?_
              obtain ⟨l_15, h21, hh⟩ := bind_ex hh
              obtain ⟨h21a, h21c⟩ := app_some h21
              have h21d := app_map (f := PV.str) h21c
              have h21e := app_len h21c
              try simp only [List.length_cons, List.length_nil, Nat.zero_add, Nat.reduceAdd] at h21a h21e
              try simp only [h21e] at h21a
              try simp only [List.map_cons, List.map_nil, List.nil_append, List.append_nil, List.cons_append, List.singleton_append, rune1, diptychlaw5_Cell.pv_eq, api_Attr.pv_eq, api_Node.pv_eq, token_Token.pv_eq, piece_flat.pv_eq, place_Spot.pv_eq, diptychref4_Spot.pv_eq, pvL] at h21d
              refine awp_region fun K kk hK => ?_
              simp only [go_sem, h21a, h21d, h21e, hl0a, hl0b, hl0d, hl0w]
              (repeat refine sd ?_)
              refine hK _ _ fun nx => ?_; clear hK K; try clear kk
              refine nmx ?_
              refine awp_region fun K kk hK => ?_
              simp only [go_sem, hl0a, hl0b, hl0d, hl0w]
              refine hK _ _ fun nx => ?_; clear hK K; try clear kk
              refine nmx ?_
              have ih' := ih (pre ++ [y_13]) (v_8 + 1) _ (by rw [hsplit]; simp) (by simp [hidx]) hh nx
              refine cut_id ?_
              first | exact ih' _ _ | (simp only [diptychlaw5_Cell.pv_eq, api_Attr.pv_eq, api_Node.pv_eq, token_Token.pv_eq, piece_flat.pv_eq, place_Spot.pv_eq, diptychref4_Spot.pv_eq, pvL, List.map_cons, List.map_nil, List.map_append, rune1, h21e] at ih' ⊢; exact ih' _ _) | (simp only [diptychlaw5_Cell.pv_eq, api_Attr.pv_eq, api_Node.pv_eq, token_Token.pv_eq, piece_flat.pv_eq, place_Spot.pv_eq, diptychref4_Spot.pv_eq, pvL, List.map_cons, List.map_nil, List.map_append, rune1, h21e, h18, h2, h20] at ih' ⊢; exact ih' _ _)
        exact key n_1.Attrs [] _ _ rfl rfl f0 _ _ _
      · rintro s ⟨t, hless, names_19, rfl, v_17, v_18, nx, g1, g3, rfl⟩
        try dsimp only at hh
        refine nmy ?_
        first | (refine cut_less hless ?_; try refine cut_awp ?_) | refine frag_less hless ?_ | refine body_less hless ?_
        refine awp_seq ?_
        obtain ⟨name_20, h22, hh⟩ := bind_ex hh
        by_cases h23 : (!name_20) = true
        · rw [if_pos h23] at hh
          refine awp_first fun K kk hK => ?_
          simp only [go_sem, h23, h23]
          (repeat refine sd ?_)
          refine step_call2 (node_Name_ok _ _ h22) (by (try simp only [go_sem, h23, h23]) <;> exact wkl) (by rfl) (by rfl) ?_
          simp only [go_sem, h23, h23]
          (repeat refine sd ?_)
          refine hK _ _ fun nx => ?_; clear hK K; try clear kk
          refine awp_true rfl ?_
          refine awp_first fun K kk hK => ?_
          simp only [go_sem]
          refine hK _ _ fun nx => ?_; clear hK K; try clear kk
          refine awp_ret ?_; refine nmx ?_
          obtain hR := Option.some.inj hh
          subst hR
          exact ret_p2
        · rw [if_neg h23] at hh
          replace h23 := Bool.eq_false_iff.mpr h23
          by_cases h24 : (!(n_1.Text == ([] : Str))) = true
          · rw [if_pos h24] at hh
            refine awp_first fun K kk hK => ?_
            simp only [go_sem, h23, h23, h24, h24]
            (repeat refine sd ?_)
            refine step_call2 (node_Name_ok _ _ h22) (by (try simp only [go_sem, h23, h23, h24, h24]) <;> exact wkl) (by rfl) (by rfl) ?_
            simp only [go_sem, h23, h23, h24, h24]
            (repeat refine sd ?_)
            refine hK _ _ fun nx => ?_; clear hK K; try clear kk
            refine awp_true rfl ?_
            refine awp_first fun K kk hK => ?_
            simp only [go_sem]
            refine hK _ _ fun nx => ?_; clear hK K; try clear kk
            refine awp_ret ?_; refine nmx ?_
            obtain hR := Option.some.inj hh
            subst hR
            exact ret_p2
          · rw [if_neg h24] at hh
            replace h24 := Bool.eq_false_iff.mpr h24
            by_cases h25 : (decide ((n_1.Marks.length : Int) > (0 : Int))) = true
            · rw [if_pos h25] at hh
              refine awp_first fun K kk hK => ?_
              simp only [go_sem, h23, h23, h24, h24, h25, of_decide_eq_true h25, h25, of_decide_eq_true h25]
              (repeat refine sd ?_)
              refine step_call2 (node_Name_ok _ _ h22) (by (try simp only [go_sem, h23, h23, h24, h24, h25, of_decide_eq_true h25, h25, of_decide_eq_true h25]) <;> exact wkl) (by rfl) (by rfl) ?_
              simp only [go_sem, h23, h23, h24, h24, h25, of_decide_eq_true h25, h25, of_decide_eq_true h25]
              (repeat refine sd ?_)
              refine hK _ _ fun nx => ?_; clear hK K; try clear kk
              refine awp_true rfl ?_
              refine awp_first fun K kk hK => ?_
              simp only [go_sem]
              refine hK _ _ fun nx => ?_; clear hK K; try clear kk
              refine awp_ret ?_; refine nmx ?_
              obtain hR := Option.some.inj hh
              subst hR
              exact ret_p2
            · rw [if_neg h25] at hh
              replace h25 := Bool.eq_false_iff.mpr h25
              obtain ⟨rise_21, h26, hh⟩ := bind_ex hh
              refine awp_first fun K kk hK => ?_
              simp only [go_sem, h23, h23, h24, h24, h25, of_decide_eq_false h25, h25, of_decide_eq_false h25]
              (repeat refine sd ?_)
              refine step_call2 (node_Name_ok _ _ h22) (by (try simp only [go_sem, h23, h23, h24, h24, h25, of_decide_eq_false h25, h25, of_decide_eq_false h25]) <;> exact wkl) (by rfl) (by rfl) ?_
              simp only [go_sem, h23, h23, h24, h24, h25, of_decide_eq_false h25, h25, of_decide_eq_false h25]
              (repeat refine sd ?_)
              refine step_call2 (node_rise_ok _ _ h26) (by (try simp only [go_sem, h23, h23, h24, h24, h25, of_decide_eq_false h25, h25, of_decide_eq_false h25]) <;> exact wkl) (by rfl) (by rfl) ?_
              simp only [go_sem, h23, h23, h24, h24, h25, of_decide_eq_false h25, h25, of_decide_eq_false h25]
              (repeat refine sd ?_)
              refine hK _ _ fun nx => ?_; clear hK K; try clear kk
              by_cases h27 : (!rise_21) = true
              · rw [if_pos h27] at hh
                refine awp_true (by first | exact congrArg PV.bool h27 | rfl) ?_
                refine awp_first fun K kk hK => ?_
                simp only [go_sem]
                refine hK _ _ fun nx => ?_; clear hK K; try clear kk
                refine awp_ret ?_; refine nmx ?_
                obtain hR := Option.some.inj hh
                subst hR
                exact ret_p2
              · rw [if_neg h27] at hh
                replace h27 := Bool.eq_false_iff.mpr h27
                refine awp_false (by first | exact congrArg PV.bool h27 | rfl) ?_
                refine awp_skip ?_; refine nmx ?_
                refine awp_seq ?_
                refine awp_first fun K kk hK => ?_
                simp only [go_sem]
                refine hK _ _ fun nx => ?_; clear hK K; try clear kk
                obtain ⟨e1, f1, hh⟩ := bind_ex hh
                obtain ⟨hlen1, f1⟩ := chk_some f1
                refine awp_fragE (CutTo (fun s => .inr () = e1 ∧ ∃ (v_36 : Int) (v_37 : Bool) (nx : Nat) (g1 : Nat), s = ⟨[(1, .box 1 g1 0), (71, .list 5 (n_1.Kids.map api_Node.pv)), (72, .int .i64 (n_1.Kids.length : Int)), (73, .int .i64 v_36), (74, .bool v_37)], [(1, g1, .var 28 [.str n_1.Kind, .str n_1.Text, .list 1 (n_1.Marks.map PV.str), .list 2 (n_1.Attrs.map api_Attr.pv), .list 5 (n_1.Kids.map api_Node.pv)])], nx⟩))
                  (fun i s => False)
                  (fun s => ∃ res_35, .inl res_35 = e1 ∧ bodyR Tryd.prog [.tmp 2] (.bool res_35) [] .ret s) ?_ ?_ ?_ ?_
                · refine awp_block ?_
                  refine awp_loopJ fun I hI => ?_
                  have key : ∀ (suf pre : List api_Node) (v_26 : Int), n_1.Kids = pre ++ suf → v_26 = (pre.length : Int) → node_formed_l1 n_1 (node_formed_k kr) suf v_26 = some e1 → ∀ (nx : Nat) (g1 : Nat), I ⟨[(1, .box 1 g1 0), (71, .list 5 (n_1.Kids.map api_Node.pv)), (72, .int .i64 (n_1.Kids.length : Int)), (73, .int .i64 v_26)], [(1, g1, .var 28 [.str n_1.Kind, .str n_1.Text, .list 1 (n_1.Marks.map PV.str), .list 2 (n_1.Attrs.map api_Attr.pv), .list 5 (n_1.Kids.map api_Node.pv)])], nx⟩ := by
                    intro suf
                    induction suf with
                    | nil =>
                      intro pre v_26 hsplit hidx hh nx g1
                      rw [node_formed_l1] at hh
                      refine hI _ ?_
                      have h44 := walk_nil hsplit hidx
                      refine awp_first fun K kk hK => ?_
                      simp only [go_sem]
                      refine hK _ _ fun nx => ?_; clear hK K; try clear kk
                      refine awp_seq ?_
                      refine awp_false (by first | exact congrArg PV.bool h44 | rfl) ?_
                      refine awp_exit ?_; refine nmx ?_
                      refine fragN ?_
                      refine cut_id ?_
                      refine ⟨(Option.some.inj hh), ?_⟩
                      first | exact ⟨_, _, _, _, rfl⟩ | (simp only [diptychlaw5_Cell.pv_eq, api_Attr.pv_eq, api_Node.pv_eq, token_Token.pv_eq, piece_flat.pv_eq, place_Spot.pv_eq, diptychref4_Spot.pv_eq, pvL, List.map_cons, List.map_nil, List.map_append, rune1]; exact ⟨_, _, _, _, rfl⟩) | (simp only [diptychlaw5_Cell.pv_eq, api_Attr.pv_eq, api_Node.pv_eq, token_Token.pv_eq, piece_flat.pv_eq, place_Spot.pv_eq, diptychref4_Spot.pv_eq, pvL, List.map_cons, List.map_nil, List.map_append, rune1, h2, h23, h24, h25, h27, h44]; exact ⟨_, _, _, _, rfl⟩)
                    | cons y_31 suf ih =>
                      intro pre v_26 hsplit hidx hh nx g1
                      rw [node_formed_l1] at hh
                      refine hI _ ?_
                      obtain ⟨hl1a, hl1b, hl1d, hl1w, h44⟩ := walk_cons (f := api_Node.pv) hsplit hidx hlen1
                      refine awp_first fun K kk hK => ?_
                      simp only [go_sem]
                      refine hK _ _ fun nx => ?_; clear hK K; try clear kk
                      refine awp_seq ?_
                      refine awp_true (by first | exact congrArg PV.bool h44 | rfl) ?_
                      refine awp_skip ?_; refine nmx ?_
                      refine awp_seq ?_
                      refine awp_block ?_
                      refine awp_first fun K kk hK => ?_
                      simp only [go_sem, hl1a, hl1b, hl1d, hl1w]
                      refine hK _ _ fun nx => ?_; clear hK K; try clear kk
                      obtain ⟨formed_32, h45, hh⟩ := bind_ex hh
                      by_cases h46 : (!formed_32) = true
                      · rw [if_pos h46] at hh
                        refine awp_first fun K kk hK => ?_
                        simp only [go_sem, h46, h46, hl1a, hl1b, hl1d, hl1w]
                        (repeat refine sd ?_)
                        refine step_call2 (ih_node_formed _ _ h45) (by (try simp only [go_sem, h46, h46, hl1a, hl1b, hl1d, hl1w]) <;> exact wkl) (by rfl) (by rfl) ?_
                        simp only [go_sem, h46, h46, hl1a, hl1b, hl1d, hl1w]
                        (repeat refine sd ?_)
                        refine hK _ _ fun nx => ?_; clear hK K; try clear kk
                        refine awp_true rfl ?_
                        refine awp_first fun K kk hK => ?_
                        simp only [go_sem, hl1a, hl1b, hl1d, hl1w]
                        refine hK _ _ fun nx => ?_; clear hK K; try clear kk
                        refine awp_ret ?_; refine nmx ?_
                        refine fragR ⟨_, (Option.some.inj hh), ?_⟩
                        exact ret_p2
                      · rw [if_neg h46] at hh
                        replace h46 := Bool.eq_false_iff.mpr h46
                        by_cases h47 : (decide (v_26 > (0 : Int))) = true
                        · rw [if_pos h47] at hh
                          obtain ⟨x_33, h48, hh⟩ := bind_ex hh
                          obtain ⟨h48a, h48b, h48c⟩ := rd_some h48
                          have h48d := rd_get (f := api_Node.pv) h48c
                          have h48f := rd_more (f := api_Node.pv) h48c
                          try simp only [Int.toNat_natCast, Int.reduceToNat] at h48d h48f
                          obtain ⟨alike_34, h49, hh⟩ := bind_ex hh
                          refine awp_first fun K kk hK => ?_
                          simp only [go_sem, h46, h47, of_decide_eq_true h47, h48a, h48b, h48d, h48f.1, h48f.2, h47, of_decide_eq_true h47, h46, hl1a, hl1b, hl1d, hl1w]
                          (repeat refine sd ?_)
                          refine step_call2 (ih_node_formed _ _ h45) (by (try simp only [go_sem, h46, h47, of_decide_eq_true h47, h48a, h48b, h48d, h48f.1, h48f.2, h47, of_decide_eq_true h47, h46, hl1a, hl1b, hl1d, hl1w]) <;> exact wkl) (by rfl) (by rfl) ?_
                          simp only [go_sem, h46, h47, of_decide_eq_true h47, h48a, h48b, h48d, h48f.1, h48f.2, h47, of_decide_eq_true h47, h46, hl1a, hl1b, hl1d, hl1w]
                          (repeat refine sd ?_)
                          refine step_call2 (node_alike_ok _ _ _ h49) (by (try simp only [go_sem, h46, h47, of_decide_eq_true h47, h48a, h48b, h48d, h48f.1, h48f.2, h47, of_decide_eq_true h47, h46, hl1a, hl1b, hl1d, hl1w]) <;> exact wkl) (by rfl) (by rfl) ?_
                          simp only [go_sem, h46, h47, of_decide_eq_true h47, h48a, h48b, h48d, h48f.1, h48f.2, h47, of_decide_eq_true h47, h46, hl1a, hl1b, hl1d, hl1w]
                          (repeat refine sd ?_)
                          refine hK _ _ fun nx => ?_; clear hK K; try clear kk
                          by_cases h50 : (alike_34) = true
                          · rw [if_pos h50] at hh
                            refine awp_true (by first | exact congrArg PV.bool h50 | rfl) ?_
                            refine awp_first fun K kk hK => ?_
                            simp only [go_sem, hl1a, hl1b, hl1d, hl1w]
                            refine hK _ _ fun nx => ?_; clear hK K; try clear kk
                            refine awp_ret ?_; refine nmx ?_
                            refine fragR ⟨_, (Option.some.inj hh), ?_⟩
                            exact ret_p2
                          · rw [if_neg h50] at hh
                            replace h50 := Bool.eq_false_iff.mpr h50
                            refine awp_false (by first | exact congrArg PV.bool h50 | rfl) ?_
                            refine awp_skip ?_; refine nmx ?_
                            refine awp_region fun K kk hK => ?_
                            simp only [go_sem, hl1a, hl1b, hl1d, hl1w]
                            refine hK _ _ fun nx => ?_; clear hK K; try clear kk
                            refine nmx ?_
                            have ih' := ih (pre ++ [y_31]) (v_26 + 1) (by rw [hsplit]; simp) (by simp [hidx]) hh nx
                            refine cut_id ?_
                            first | exact ih' _ | (simp only [diptychlaw5_Cell.pv_eq, api_Attr.pv_eq, api_Node.pv_eq, token_Token.pv_eq, piece_flat.pv_eq, place_Spot.pv_eq, diptychref4_Spot.pv_eq, pvL, List.map_cons, List.map_nil, List.map_append, rune1] at ih' ⊢; exact ih' _) | (simp only [diptychlaw5_Cell.pv_eq, api_Attr.pv_eq, api_Node.pv_eq, token_Token.pv_eq, piece_flat.pv_eq, place_Spot.pv_eq, diptychref4_Spot.pv_eq, pvL, List.map_cons, List.map_nil, List.map_append, rune1, h2, h23, h24, h25, h27, h44, h46, h47, h50] at ih' ⊢; exact ih' _)
                        · rw [if_neg h47] at hh
                          replace h47 := Bool.eq_false_iff.mpr h47
                          refine awp_first fun K kk hK => ?_
                          simp only [go_sem, h46, h47, of_decide_eq_false h47, h47, of_decide_eq_false h47, h46, hl1a, hl1b, hl1d, hl1w]
                          (repeat refine sd ?_)
                          refine step_call2 (ih_node_formed _ _ h45) (by (try simp only [go_sem, h46, h47, of_decide_eq_false h47, h47, of_decide_eq_false h47, h46, hl1a, hl1b, hl1d, hl1w]) <;> exact wkl) (by rfl) (by rfl) ?_
                          simp only [go_sem, h46, h47, of_decide_eq_false h47, h47, of_decide_eq_false h47, h46, hl1a, hl1b, hl1d, hl1w]
                          (repeat refine sd ?_)
                          refine hK _ _ fun nx => ?_; clear hK K; try clear kk
                          refine awp_false rfl ?_
                          refine awp_skip ?_; refine nmx ?_
                          refine awp_region fun K kk hK => ?_
                          simp only [go_sem, hl1a, hl1b, hl1d, hl1w]
                          refine hK _ _ fun nx => ?_; clear hK K; try clear kk
                          refine nmx ?_
                          have ih' := ih (pre ++ [y_31]) (v_26 + 1) (by rw [hsplit]; simp) (by simp [hidx]) hh nx
                          refine cut_id ?_
                          first | exact ih' _ | (simp only [diptychlaw5_Cell.pv_eq, api_Attr.pv_eq, api_Node.pv_eq, token_Token.pv_eq, piece_flat.pv_eq, place_Spot.pv_eq, diptychref4_Spot.pv_eq, pvL, List.map_cons, List.map_nil, List.map_append, rune1] at ih' ⊢; exact ih' _) | (simp only [diptychlaw5_Cell.pv_eq, api_Attr.pv_eq, api_Node.pv_eq, token_Token.pv_eq, piece_flat.pv_eq, place_Spot.pv_eq, diptychref4_Spot.pv_eq, pvL, List.map_cons, List.map_nil, List.map_append, rune1, h2, h23, h24, h25, h27, h44, h46, h47] at ih' ⊢; exact ih' _)
                  exact key n_1.Kids [] _ rfl rfl f1 _ _
                · rintro s ⟨t, hless, rfl, v_36, v_37, nx, g1, rfl⟩
                  try dsimp only at hh
                  refine nmy ?_
                  first | (refine cut_less hless ?_; try refine cut_awp ?_) | refine frag_less hless ?_ | refine body_less hless ?_
                  refine awp_first fun K kk hK => ?_
                  simp only [go_sem]
                  refine hK _ _ fun nx => ?_; clear hK K; try clear kk
                  refine awp_ret ?_; refine nmx ?_
                  obtain hR := Option.some.inj hh
                  subst hR
                  exact ret_p2
                · intro i s h; exact h.elim
                · rintro s ⟨res_35, rfl, hb⟩
                  try dsimp only at hh
                  obtain hR := Option.some.inj hh
                  subst hR
                  refine nmx ?_
                  exact hb
      · intro i s h; exact h.elim
      · rintro s ⟨res_16, rfl, hb⟩
        try dsimp only at hh
        obtain hR := Option.some.inj hh
        subst hR
        refine nmx ?_
        exact hb
theorem node_formed_ok (n_1 : api_Node) (R : Bool) (hh : node_formed n_1 = some R) : PC Tryd.prog 97 [.agg [.str n_1.Kind, .str n_1.Text, .list 1 (n_1.Marks.map PV.str), .list 2 (n_1.Attrs.map api_Attr.pv), .list 5 (n_1.Kids.map api_Node.pv)]] (.bool R) := by
  rw [node_formed] at hh
  obtain ⟨kr, hh⟩ := lim_some hh
  exact (node_formed_grp kr) _ _ hh
theorem node_Check_ok (n_1 : api_Node) (R : Int) (hh : node_Check n_1 = some R) : PC Tryd.prog 75 [.agg [.str n_1.Kind, .str n_1.Text, .list 1 (n_1.Marks.map PV.str), .list 2 (n_1.Attrs.map api_Attr.pv), .list 5 (n_1.Kids.map api_Node.pv)]] (.int .i64 R) := by
  rw [node_Check] at hh
  refine start_node_Check rfl ?_
  refine awp_first fun K kk hK => ?_
  simp only [go_sem]
  refine hK _ _ fun nx => ?_; clear hK K; try clear kk
  refine awp_seq ?_
  refine awp_block ?_
  obtain ⟨formed_2, h1, hh⟩ := bind_ex hh
  refine awp_first fun K kk hK => ?_
  simp only [go_sem]
  refine step_call2 (node_formed_ok _ _ h1) (by (try simp only [go_sem]) <;> exact wkl) (by rfl) (by rfl) ?_
  simp only [go_sem]
  refine hK _ _ fun nx => ?_; clear hK K; try clear kk
  by_cases h2 : (!formed_2) = true
  · rw [if_pos h2] at hh
    refine awp_true (by first | exact congrArg PV.bool h2 | rfl) ?_
    refine awp_first fun K kk hK => ?_
    simp only [go_sem]
    refine hK _ _ fun nx => ?_; clear hK K; try clear kk
    refine awp_ret ?_; refine nmx ?_
    obtain hR := Option.some.inj hh
    subst hR
    exact ret_p2
  · rw [if_neg h2] at hh
    replace h2 := Bool.eq_false_iff.mpr h2
    refine awp_false (by first | exact congrArg PV.bool h2 | rfl) ?_
    obtain ⟨depth_3, h3, hh⟩ := bind_ex hh
    refine awp_first fun K kk hK => ?_
    simp only [go_sem]
    refine step_call2 (node_Depth_ok _ _ h3) (by (try simp only [go_sem]) <;> exact wkl) (by rfl) (by rfl) ?_
    simp only [go_sem]
    refine hK _ _ fun nx => ?_; clear hK K; try clear kk
    by_cases h4 : (decide (depth_3 > (40 : Int))) = true
    · rw [if_pos h4] at hh
      refine awp_true (by first | exact congrArg PV.bool h4 | rfl) ?_
      refine awp_first fun K kk hK => ?_
      simp only [go_sem]
      refine hK _ _ fun nx => ?_; clear hK K; try clear kk
      refine awp_ret ?_; refine nmx ?_
      obtain hR := Option.some.inj hh
      subst hR
      exact ret_p2
    · rw [if_neg h4] at hh
      replace h4 := Bool.eq_false_iff.mpr h4
      refine awp_false (by first | exact congrArg PV.bool h4 | rfl) ?_
      obtain ⟨size_4, h5, hh⟩ := bind_ex hh
      refine awp_first fun K kk hK => ?_
      simp only [go_sem]
      refine step_call2 (node_Size_ok _ _ h5) (by (try simp only [go_sem]) <;> exact wkl) (by rfl) (by rfl) ?_
      simp only [go_sem]
      refine hK _ _ fun nx => ?_; clear hK K; try clear kk
      by_cases h6 : (decide (size_4 > (4000 : Int))) = true
      · rw [if_pos h6] at hh
        refine awp_true (by first | exact congrArg PV.bool h6 | rfl) ?_
        refine awp_first fun K kk hK => ?_
        simp only [go_sem]
        refine hK _ _ fun nx => ?_; clear hK K; try clear kk
        refine awp_ret ?_; refine nmx ?_
        obtain hR := Option.some.inj hh
        subst hR
        exact ret_p2
      · rw [if_neg h6] at hh
        replace h6 := Bool.eq_false_iff.mpr h6
        refine awp_false (by first | exact congrArg PV.bool h6 | rfl) ?_
        refine awp_skip ?_; refine nmx ?_
        refine awp_first fun K kk hK => ?_
        simp only [go_sem]
        refine hK _ _ fun nx => ?_; clear hK K; try clear kk
        refine awp_ret ?_; refine nmx ?_
        obtain hR := Option.some.inj hh
        subst hR
        exact ret_p2
theorem node_Right_ok (n_1 : api_Node) (R : Bool) (hh : node_Right n_1 = some R) : PC Tryd.prog 42 [.agg [.str n_1.Kind, .str n_1.Text, .list 1 (n_1.Marks.map PV.str), .list 2 (n_1.Attrs.map api_Attr.pv), .list 5 (n_1.Kids.map api_Node.pv)]] (.bool R) := by
  rw [node_Right] at hh
  refine start_node_Right rfl ?_
  refine awp_first fun K kk hK => ?_
  simp only [go_sem]
  refine hK _ _ fun nx => ?_; clear hK K; try clear kk
  obtain ⟨check_2, h1, hh⟩ := bind_ex hh
  refine awp_first fun K kk hK => ?_
  simp only [go_sem]
  refine step_call2 (node_Check_ok _ _ h1) (by (try simp only [go_sem]) <;> exact wkl) (by rfl) (by rfl) ?_
  simp only [go_sem]
  refine hK _ _ fun nx => ?_; clear hK K; try clear kk
  refine awp_ret ?_; refine nmx ?_
  obtain hR := Option.some.inj hh
  subst hR
  exact ret_p2
theorem piece_where_1_x_ok (v_1 : Int) (flat_2 : piece_flat) (R : (Int × piece_flat)) (hh : piece_where_1_x v_1 flat_2 = some R) : BD Tryd.prog 93 [.box 1000 0 0, .box 1001 0 0] [.var 37 [.int .i64 v_1], .var 117 [.list 1 (flat_2.path.map (PV.int .i64)), .str flat_2.in_.Kind, .str flat_2.in_.Text, .list 1 (flat_2.in_.Marks.map PV.str), .list 2 (flat_2.in_.Attrs.map api_Attr.pv), .list 5 (flat_2.in_.Kids.map api_Node.pv), .int .i64 flat_2.from_, .int .i64 flat_2.to_]] (.tup []) [.var 37 [.int .i64 R.1], .var 117 [.list 1 (R.2.path.map (PV.int .i64)), .str R.2.in_.Kind, .str R.2.in_.Text, .list 1 (R.2.in_.Marks.map PV.str), .list 2 (R.2.in_.Attrs.map api_Attr.pv), .list 5 (R.2.in_.Kids.map api_Node.pv), .int .i64 R.2.from_, .int .i64 R.2.to_]] := by
  rw [piece_where_1_x] at hh
  refine start_piece_where_1_x rfl rfl rfl ?_
  refine awp_first fun K kk hK => ?_
  simp only [go_sem]
  refine hK _ _ fun nx => ?_; clear hK K; try clear kk
  by_cases h1 : (v_1 != (0 : Int)) = true
  · rw [if_pos h1] at hh
    refine awp_true (by first | exact congrArg PV.bool h1 | rfl) ?_
    refine awp_region fun K kk hK => ?_
    simp only [go_sem]
    refine hK _ _ fun nx => ?_; clear hK K; try clear kk
    refine nmx ?_
    obtain hR := Option.some.inj hh
    subst hR
    refine body_end ?_
    refine ret_pureB ?_ (by rfl) ?_
    · simp only [go_sem, rvsRes, rvRes, cellRes, tupOf, pur2, List.map_cons, List.map_append, List.head?_cons, h1]
      all_goals exact wkw
    · (try simp only [go_sem, h1]); (try simp only [List.length_append, List.map_append]); all_goals exact wkb
  · rw [if_neg h1] at hh
    replace h1 := Bool.eq_false_iff.mpr h1
    refine awp_false (by first | exact congrArg PV.bool h1 | rfl) ?_
    refine awp_skip ?_; refine nmx ?_
    obtain hR := Option.some.inj hh
    subst hR
    refine body_end ?_
    refine ret_pureB ?_ (by rfl) ?_
    · simp only [go_sem, rvsRes, rvRes, cellRes, tupOf, pur2, List.map_cons, List.map_append, List.head?_cons, h1]
      all_goals exact wkw
    · (try simp only [go_sem, h1]); (try simp only [List.length_append, List.map_append]); all_goals exact wkb
theorem slices_Equal_int_ok (s1_1 : (List Int)) (s2_2 : (List Int)) (R : Bool) (hh : slices_Equal_int s1_1 s2_2 = some R) : PC Tryd.prog 94 [.list 1 (s1_1.map (PV.int .i64)), .list 1 (s2_2.map (PV.int .i64))] (.bool R) := by
  rw [slices_Equal_int] at hh
  refine start_slices_Equal_int rfl ?_
  refine awp_first fun K kk hK => ?_
  simp only [go_sem]
  refine hK _ _ fun nx => ?_; clear hK K; try clear kk
  refine awp_seq ?_
  refine awp_first fun K kk hK => ?_
  simp only [go_sem]
  refine hK _ _ fun nx => ?_; clear hK K; try clear kk
  by_cases h1 : ((s1_1.length : Int) != (s2_2.length : Int)) = true
  · rw [if_pos h1] at hh
    refine awp_true (by first | exact congrArg PV.bool h1 | rfl) ?_
    refine awp_first fun K kk hK => ?_
    simp only [go_sem]
    refine hK _ _ fun nx => ?_; clear hK K; try clear kk
    refine awp_ret ?_; refine nmx ?_
    obtain hR := Option.some.inj hh
    subst hR
    exact ret_p2
  · rw [if_neg h1] at hh
    replace h1 := Bool.eq_false_iff.mpr h1
    refine awp_false (by first | exact congrArg PV.bool h1 | rfl) ?_
    refine awp_skip ?_; refine nmx ?_
    refine awp_seq ?_
    refine awp_first fun K kk hK => ?_
    simp only [go_sem]
    refine hK _ _ fun nx => ?_; clear hK K; try clear kk
    obtain ⟨e0, f0, hh⟩ := bind_ex hh
    obtain ⟨hlen0, f0⟩ := chk_some f0
    refine awp_fragE (CutTo (fun s => .inr () = e0 ∧ ∃ (v_11 : Int) (v_12 : Bool) (nx : Nat), s = ⟨[(0, .list 1 (s1_1.map (PV.int .i64))), (1, .list 1 (s2_2.map (PV.int .i64))), (12, .int .i64 (s1_1.length : Int)), (13, .int .i64 v_11), (14, .bool v_12)], [], nx⟩))
      (fun i s => False)
      (fun s => ∃ res_10, .inl res_10 = e0 ∧ bodyR Tryd.prog [.tmp 4] (.bool res_10) [] .ret s) ?_ ?_ ?_ ?_
    · refine awp_block ?_
      refine awp_loopJ fun I hI => ?_
      have key : ∀ (suf pre : List Int) (v_5 : Int), s1_1 = pre ++ suf → v_5 = (pre.length : Int) → slices_Equal_int_l0 s2_2 suf v_5 = some e0 → ∀ (nx : Nat), I ⟨[(0, .list 1 (s1_1.map (PV.int .i64))), (1, .list 1 (s2_2.map (PV.int .i64))), (12, .int .i64 (s1_1.length : Int)), (13, .int .i64 v_5)], [], nx⟩ := by
        intro suf
        induction suf with
        | nil =>
          intro pre v_5 hsplit hidx hh nx
          rw [slices_Equal_int_l0] at hh
          refine hI _ ?_
          have h10 := walk_nil hsplit hidx
          refine awp_first fun K kk hK => ?_
          simp only [go_sem]
          refine hK _ _ fun nx => ?_; clear hK K; try clear kk
          refine awp_seq ?_
          refine awp_false (by first | exact congrArg PV.bool h10 | rfl) ?_
          refine awp_exit ?_; refine nmx ?_
          refine fragN ?_
          refine cut_id ?_
          refine ⟨(Option.some.inj hh), ?_⟩
          first | exact ⟨_, _, _, rfl⟩ | (simp only [diptychlaw5_Cell.pv_eq, api_Attr.pv_eq, api_Node.pv_eq, token_Token.pv_eq, piece_flat.pv_eq, place_Spot.pv_eq, diptychref4_Spot.pv_eq, pvL, List.map_cons, List.map_nil, List.map_append, rune1]; exact ⟨_, _, _, rfl⟩) | (simp only [diptychlaw5_Cell.pv_eq, api_Attr.pv_eq, api_Node.pv_eq, token_Token.pv_eq, piece_flat.pv_eq, place_Spot.pv_eq, diptychref4_Spot.pv_eq, pvL, List.map_cons, List.map_nil, List.map_append, rune1, h1, h10]; exact ⟨_, _, _, rfl⟩)
        | cons y_8 suf ih =>
          intro pre v_5 hsplit hidx hh nx
          rw [slices_Equal_int_l0] at hh
          refine hI _ ?_
          obtain ⟨hl0a, hl0b, hl0d, hl0w, h10⟩ := walk_cons (f := (PV.int .i64)) hsplit hidx hlen0
          refine awp_first fun K kk hK => ?_
          simp only [go_sem]
          refine hK _ _ fun nx => ?_; clear hK K; try clear kk
          refine awp_seq ?_
          refine awp_true (by first | exact congrArg PV.bool h10 | rfl) ?_
          refine awp_skip ?_; refine nmx ?_
          refine awp_seq ?_
          refine awp_block ?_
          refine awp_first fun K kk hK => ?_
          simp only [go_sem, hl0a, hl0b, hl0d, hl0w]
          refine hK _ _ fun nx => ?_; clear hK K; try clear kk
          obtain ⟨x_9, h11, hh⟩ := bind_ex hh
          obtain ⟨h11a, h11b, h11c⟩ := rd_some h11
          have h11d := rd_get (f := (PV.int .i64)) h11c
          have h11f := rd_more (f := (PV.int .i64)) h11c
          try simp only [Int.toNat_natCast, Int.reduceToNat] at h11d h11f
          refine awp_first fun K kk hK => ?_
          simp only [go_sem, h11a, h11b, h11d, h11f.1, h11f.2, hl0a, hl0b, hl0d, hl0w]
          (repeat refine sd ?_)
          refine hK _ _ fun nx => ?_; clear hK K; try clear kk
          by_cases h12 : (y_8 != x_9) = true
          · rw [if_pos h12] at hh
            refine awp_true (by first | exact congrArg PV.bool h12 | rfl) ?_
            refine awp_first fun K kk hK => ?_
            simp only [go_sem, hl0a, hl0b, hl0d, hl0w]
            refine hK _ _ fun nx => ?_; clear hK K; try clear kk
            refine awp_ret ?_; refine nmx ?_
            refine fragR ⟨_, (Option.some.inj hh), ?_⟩
            exact ret_p2
          · rw [if_neg h12] at hh
            replace h12 := Bool.eq_false_iff.mpr h12
            refine awp_false (by first | exact congrArg PV.bool h12 | rfl) ?_
            refine awp_skip ?_; refine nmx ?_
            refine awp_region fun K kk hK => ?_
            simp only [go_sem, hl0a, hl0b, hl0d, hl0w]
            refine hK _ _ fun nx => ?_; clear hK K; try clear kk
            refine nmx ?_
            have ih' := ih (pre ++ [y_8]) (v_5 + 1) (by rw [hsplit]; simp) (by simp [hidx]) hh nx
            refine cut_id ?_
            first | exact ih' | (simp only [diptychlaw5_Cell.pv_eq, api_Attr.pv_eq, api_Node.pv_eq, token_Token.pv_eq, piece_flat.pv_eq, place_Spot.pv_eq, diptychref4_Spot.pv_eq, pvL, List.map_cons, List.map_nil, List.map_append, rune1] at ih' ⊢; exact ih') | (simp only [diptychlaw5_Cell.pv_eq, api_Attr.pv_eq, api_Node.pv_eq, token_Token.pv_eq, piece_flat.pv_eq, place_Spot.pv_eq, diptychref4_Spot.pv_eq, pvL, List.map_cons, List.map_nil, List.map_append, rune1, h1, h10, h12] at ih' ⊢; exact ih')
      exact key s1_1 [] _ rfl rfl f0 _
    · rintro s ⟨t, hless, rfl, v_11, v_12, nx, rfl⟩
      try dsimp only at hh
      refine nmy ?_
      first | (refine cut_less hless ?_; try refine cut_awp ?_) | refine frag_less hless ?_ | refine body_less hless ?_
      refine awp_first fun K kk hK => ?_
      simp only [go_sem]
      refine hK _ _ fun nx => ?_; clear hK K; try clear kk
      refine awp_ret ?_; refine nmx ?_
      obtain hR := Option.some.inj hh
      subst hR
      exact ret_p2
    · intro i s h; exact h.elim
    · rintro s ⟨res_10, rfl, hb⟩
      try dsimp only at hh
      obtain hR := Option.some.inj hh
      subst hR
      refine nmx ?_
      exact hb
theorem place_Inner_ok (n_1 : api_Node) (path_2 : (List Int)) (R : (api_Node × Int)) (hh : place_Inner n_1 path_2 = some R) : PC Tryd.prog 96 [.agg [.str n_1.Kind, .str n_1.Text, .list 1 (n_1.Marks.map PV.str), .list 2 (n_1.Attrs.map api_Attr.pv), .list 5 (n_1.Kids.map api_Node.pv)], .list 1 (path_2.map (PV.int .i64))] (.tup [.agg [.str R.1.Kind, .str R.1.Text, .list 1 (R.1.Marks.map PV.str), .list 2 (R.1.Attrs.map api_Attr.pv), .list 5 (R.1.Kids.map api_Node.pv)], .int .i64 R.2]) := by
  rw [place_Inner] at hh
  refine start_place_Inner rfl ?_
  refine awp_first fun K kk hK => ?_
  simp only [go_sem]
  refine hK _ _ fun nx => ?_; clear hK K; try clear kk
  refine awp_seq ?_
  refine awp_first fun K kk hK => ?_
  simp only [go_sem]
  refine hK _ _ fun nx => ?_; clear hK K; try clear kk
  obtain ⟨e0, f0, hh⟩ := bind_ex hh
  obtain ⟨hlen0, f0⟩ := chk_some f0
  refine awp_fragE (CutTo (fun s => ∃ n_14, .inr n_14 = e0 ∧ ∃ (v_12 : Int) (v_13 : Bool) (nx : Nat) (g2 : Nat) (g4 : Nat), s = ⟨[(2, .box 2 g2 0), (4, .box 4 g4 0), (8, .list 1 (path_2.map (PV.int .i64))), (9, .int .i64 (path_2.length : Int)), (10, .int .i64 v_12), (11, .bool v_13)], [(2, g2, .var 28 [.str n_14.Kind, .str n_14.Text, .list 1 (n_14.Marks.map PV.str), .list 2 (n_14.Attrs.map api_Attr.pv), .list 5 (n_14.Kids.map api_Node.pv)]), (4, g4, .var 28 [.str ([] : Str), .str ([] : Str), .list 1 ([].map PV.str), .list 2 ([].map api_Attr.pv), .list 5 ([].map api_Node.pv)])], nx⟩))
    (fun i s => False)
    (fun s => ∃ res_11, .inl res_11 = e0 ∧ bodyR Tryd.prog [.cell 4 28, .tmp 5] (.tup [.agg [.str res_11.1.Kind, .str res_11.1.Text, .list 1 (res_11.1.Marks.map PV.str), .list 2 (res_11.1.Attrs.map api_Attr.pv), .list 5 (res_11.1.Kids.map api_Node.pv)], .int .i64 res_11.2]) [] .ret s) ?_ ?_ ?_ ?_
  · refine awp_block ?_
    refine awp_loopJ fun I hI => ?_
    have key : ∀ (suf pre : List Int) (v_6 : Int) (n_5 : api_Node), path_2 = pre ++ suf → v_6 = (pre.length : Int) → place_Inner_l0 suf v_6 n_5 = some e0 → ∀ (nx : Nat) (g2 : Nat) (g4 : Nat), I ⟨[(2, .box 2 g2 0), (4, .box 4 g4 0), (8, .list 1 (path_2.map (PV.int .i64))), (9, .int .i64 (path_2.length : Int)), (10, .int .i64 v_6)], [(2, g2, .var 28 [.str n_5.Kind, .str n_5.Text, .list 1 (n_5.Marks.map PV.str), .list 2 (n_5.Attrs.map api_Attr.pv), .list 5 (n_5.Kids.map api_Node.pv)]), (4, g4, .var 28 [.str ([] : Str), .str ([] : Str), .list 1 ([].map PV.str), .list 2 ([].map api_Attr.pv), .list 5 ([].map api_Node.pv)])], nx⟩ := by
      intro suf
      induction suf with
      | nil =>
        intro pre v_6 n_5 hsplit hidx hh nx g2 g4
        rw [place_Inner_l0] at hh
        refine hI _ ?_
        have h13 := walk_nil hsplit hidx
        refine awp_first fun K kk hK => ?_
        simp only [go_sem]
        refine hK _ _ fun nx => ?_; clear hK K; try clear kk
        refine awp_seq ?_
        refine awp_false (by first | exact congrArg PV.bool h13 | rfl) ?_
        refine awp_exit ?_; refine nmx ?_
        refine fragN ?_
        refine cut_id ?_
        refine ⟨_, (Option.some.inj hh), ?_⟩
        first | exact ⟨_, _, _, _, _, rfl⟩ | (simp only [diptychlaw5_Cell.pv_eq, api_Attr.pv_eq, api_Node.pv_eq, token_Token.pv_eq, piece_flat.pv_eq, place_Spot.pv_eq, diptychref4_Spot.pv_eq, pvL, List.map_cons, List.map_nil, List.map_append, rune1]; exact ⟨_, _, _, _, _, rfl⟩) | (simp only [diptychlaw5_Cell.pv_eq, api_Attr.pv_eq, api_Node.pv_eq, token_Token.pv_eq, piece_flat.pv_eq, place_Spot.pv_eq, diptychref4_Spot.pv_eq, pvL, List.map_cons, List.map_nil, List.map_append, rune1, h13]; exact ⟨_, _, _, _, _, rfl⟩)
      | cons y_9 suf ih =>
        intro pre v_6 n_5 hsplit hidx hh nx g2 g4
        rw [place_Inner_l0] at hh
        refine hI _ ?_
        obtain ⟨hl0a, hl0b, hl0d, hl0w, h13⟩ := walk_cons (f := (PV.int .i64)) hsplit hidx hlen0
        refine awp_first fun K kk hK => ?_
        simp only [go_sem]
        refine hK _ _ fun nx => ?_; clear hK K; try clear kk
        refine awp_seq ?_
        refine awp_true (by first | exact congrArg PV.bool h13 | rfl) ?_
        refine awp_skip ?_; refine nmx ?_
        refine awp_seq ?_
        refine awp_block ?_
        refine awp_first fun K kk hK => ?_
        simp only [go_sem, hl0a, hl0b, hl0d, hl0w]
        refine hK _ _ fun nx => ?_; clear hK K; try clear kk
        refine awp_seq ?_
        by_cases h14 : (decide (y_9 < (0 : Int))) = true
        · rw [if_pos h14] at hh
          refine awp_first fun K kk hK => ?_
          simp only [go_sem, h14, of_decide_eq_true h14, h14, of_decide_eq_true h14, hl0a, hl0b, hl0d, hl0w]
          (repeat refine sd ?_)
          refine hK _ _ fun nx => ?_; clear hK K; try clear kk
          refine awp_true rfl ?_
          refine awp_first fun K kk hK => ?_
          simp only [go_sem, hl0a, hl0b, hl0d, hl0w]
          refine hK _ _ fun nx => ?_; clear hK K; try clear kk
          refine awp_ret ?_; refine nmx ?_
          refine fragR ⟨_, (Option.some.inj hh), ?_⟩
          exact ret_p2
        · rw [if_neg h14] at hh
          replace h14 := Bool.eq_false_iff.mpr h14
          by_cases h15 : (decide (y_9 ≥ (n_5.Kids.length : Int))) = true
          · rw [if_pos h15] at hh
            refine awp_first fun K kk hK => ?_
            simp only [go_sem, h14, of_decide_eq_false h14, h14, of_decide_eq_false h14, h15, of_decide_eq_true h15, h15, of_decide_eq_true h15, hl0a, hl0b, hl0d, hl0w]
            (repeat refine sd ?_)
            refine hK _ _ fun nx => ?_; clear hK K; try clear kk
            refine awp_true rfl ?_
            refine awp_first fun K kk hK => ?_
            simp only [go_sem, hl0a, hl0b, hl0d, hl0w]
            refine hK _ _ fun nx => ?_; clear hK K; try clear kk
            refine awp_ret ?_; refine nmx ?_
            refine fragR ⟨_, (Option.some.inj hh), ?_⟩
            exact ret_p2
          · rw [if_neg h15] at hh
            replace h15 := Bool.eq_false_iff.mpr h15
            refine awp_first fun K kk hK => ?_
            simp only [go_sem, h14, of_decide_eq_false h14, h14, of_decide_eq_false h14, h15, of_decide_eq_false h15, h15, of_decide_eq_false h15, hl0a, hl0b, hl0d, hl0w]
            (repeat refine sd ?_)
            refine hK _ _ fun nx => ?_; clear hK K; try clear kk
            by_cases h16 : (n_5.Kind == ([116, 101, 120, 116] : Str)) = true
            · rw [if_pos h16] at hh
              refine awp_true (by first | exact congrArg PV.bool h16 | rfl) ?_
              refine awp_first fun K kk hK => ?_
              simp only [go_sem, hl0a, hl0b, hl0d, hl0w]
              refine hK _ _ fun nx => ?_; clear hK K; try clear kk
              refine awp_ret ?_; refine nmx ?_
              refine fragR ⟨_, (Option.some.inj hh), ?_⟩
              exact ret_p2
            · rw [if_neg h16] at hh
              replace h16 := Bool.eq_false_iff.mpr h16
              refine awp_false (by first | exact congrArg PV.bool h16 | rfl) ?_
              refine awp_skip ?_; refine nmx ?_
              obtain ⟨x_10, h17, hh⟩ := bind_ex hh
              obtain ⟨h17a, h17b, h17c⟩ := rd_some h17
              have h17d := rd_get (f := api_Node.pv) h17c
              have h17f := rd_more (f := api_Node.pv) h17c
              try simp only [Int.toNat_natCast, Int.reduceToNat] at h17d h17f
              refine awp_region fun K kk hK => ?_
              simp only [go_sem, h17a, h17b, h17d, h17f.1, h17f.2, hl0a, hl0b, hl0d, hl0w]
              (repeat refine sd ?_)
              refine hK _ _ fun nx => ?_; clear hK K; try clear kk
              refine nmx ?_
              refine awp_region fun K kk hK => ?_
              simp only [go_sem, hl0a, hl0b, hl0d, hl0w]
              refine hK _ _ fun nx => ?_; clear hK K; try clear kk
              refine nmx ?_
              have ih' := ih (pre ++ [y_9]) (v_6 + 1) _ (by rw [hsplit]; simp) (by simp [hidx]) hh nx
              refine cut_id ?_
              first | exact ih' _ _ | (simp only [diptychlaw5_Cell.pv_eq, api_Attr.pv_eq, api_Node.pv_eq, token_Token.pv_eq, piece_flat.pv_eq, place_Spot.pv_eq, diptychref4_Spot.pv_eq, pvL, List.map_cons, List.map_nil, List.map_append, rune1] at ih' ⊢; exact ih' _ _) | (simp only [diptychlaw5_Cell.pv_eq, api_Attr.pv_eq, api_Node.pv_eq, token_Token.pv_eq, piece_flat.pv_eq, place_Spot.pv_eq, diptychref4_Spot.pv_eq, pvL, List.map_cons, List.map_nil, List.map_append, rune1, h13, h14, h15, h16] at ih' ⊢; exact ih' _ _)
    exact key path_2 [] _ _ rfl rfl f0 _ _ _
  · rintro s ⟨t, hless, n_14, rfl, v_12, v_13, nx, g2, g4, rfl⟩
    try dsimp only at hh
    refine nmy ?_
    first | (refine cut_less hless ?_; try refine cut_awp ?_) | refine frag_less hless ?_ | refine body_less hless ?_
    refine awp_seq ?_
    refine awp_first fun K kk hK => ?_
    simp only [go_sem]
    refine hK _ _ fun nx => ?_; clear hK K; try clear kk
    by_cases h18 : (n_14.Kind == ([116, 101, 120, 116] : Str)) = true
    · rw [if_pos h18] at hh
      refine awp_true (by first | exact congrArg PV.bool h18 | rfl) ?_
      refine awp_first fun K kk hK => ?_
      simp only [go_sem]
      refine hK _ _ fun nx => ?_; clear hK K; try clear kk
      refine awp_ret ?_; refine nmx ?_
      obtain hR := Option.some.inj hh
      subst hR
      exact ret_p2
    · rw [if_neg h18] at hh
      replace h18 := Bool.eq_false_iff.mpr h18
      refine awp_false (by first | exact congrArg PV.bool h18 | rfl) ?_
      refine awp_skip ?_; refine nmx ?_
      refine awp_first fun K kk hK => ?_
      simp only [go_sem]
      refine hK _ _ fun nx => ?_; clear hK K; try clear kk
      refine awp_ret ?_; refine nmx ?_
      obtain hR := Option.some.inj hh
      subst hR
      exact ret_p2
  · intro i s h; exact h.elim
  · rintro s ⟨res_11, rfl, hb⟩
    try dsimp only at hh
    obtain hR := Option.some.inj hh
    subst hR
    refine nmx ?_
    exact hb

end Go.Proofs.YtblielhogcnnkaaDoor
