/- What the functions answer, the program answers (6). -/
import Derived.Test.YtblielhogcnnkaaDoorAgC
import Derived.Test.YtblielhogcnnkaaDoorAgF
import Derived.Test.YtblielhogcnnkaaDoorAgK0
import Derived.Test.YtblielhogcnnkaaDoorAgK1
import Derived.Test.YtblielhogcnnkaaDoorAgK3
import Derived.Test.YtblielhogcnnkaaDoorAgK5
namespace Go.Proofs.YtblielhogcnnkaaDoor
set_option linter.unusedSimpArgs false
set_option linter.unusedVariables false
open Go
set_option maxRecDepth 100000

theorem diptychlaw5_PieceApart_ok (l_1 : (List diptychlaw5_Cell)) (from_2 : Int) (to_3 : Int) (R : Bool) (hh : diptychlaw5_PieceApart l_1 from_2 to_3 = some R) : PC Tryd.prog 8 [.list 3 (l_1.map diptychlaw5_Cell.pv), .int .i64 from_2, .int .i64 to_3] (.bool R) := by
  rw [diptychlaw5_PieceApart] at hh
  refine start_diptychlaw5_PieceApart rfl ?_
  refine awp_first fun K kk hK => ?_
  simp only [go_sem]
  refine hK _ _ fun nx => ?_; clear hK K; try clear kk
  obtain ⟨shown_4, h1, hh⟩ := bind_ex hh
  refine awp_first fun K kk hK => ?_
  simp only [go_sem]
  refine step_call2 (diptychlaw5_shown_ok _ h1) (by (try simp only [go_sem]) <;> exact wkl) (by rfl) (by rfl) ?_
  simp only [go_sem]
  refine hK _ _ fun nx => ?_; clear hK K; try clear kk
  refine awp_seq ?_
  refine awp_first fun K kk hK => ?_
  simp only [go_sem]
  refine hK _ _ fun nx => ?_; clear hK K; try clear kk
  by_cases h2 : (!shown_4) = true
  · rw [if_pos h2] at hh
    refine awp_true (by first | exact congrArg PV.bool h2 | rfl) ?_
    refine awp_first fun K kk hK => ?_
    simp only [go_sem]
    refine hK _ _ fun nx => ?_; clear hK K; try clear kk
    refine awp_ret ?_; refine nmx ?_
    obtain hR := Option.some.inj hh
    subst hR
    exact ret_p2
  · rw [if_neg h2] at hh
    replace h2 := Bool.eq_false_iff.mpr h2
    refine awp_false (by first | exact congrArg PV.bool h2 | rfl) ?_
    refine awp_skip ?_; refine nmx ?_
    obtain ⟨doc_5, h3, hh⟩ := bind_ex hh
    refine awp_first fun K kk hK => ?_
    simp only [go_sem]
    refine step_call2 (diptychlaw5_doc_ok _ _ h3) (by (try simp only [go_sem]) <;> exact wkl) (by rfl) (by rfl) ?_
    simp only [go_sem]
    refine hK _ _ fun nx => ?_; clear hK K; try clear kk
    obtain ⟨total_6, h4, hh⟩ := bind_ex hh
    obtain ⟨pick_7, h5, hh⟩ := bind_ex hh
    refine awp_first fun K kk hK => ?_
    simp only [go_sem]
    refine step_call2 (node_Total_ok _ _ h4) (by (try simp only [go_sem]) <;> exact wkl) (by rfl) (by rfl) ?_
    simp only [go_sem]
    refine step_call2 (diptychlaw5_pick_ok _ _ _ h5) (by (try simp only [go_sem]) <;> exact wkl) (by rfl) (by rfl) ?_
    simp only [go_sem]
    refine hK _ _ fun nx => ?_; clear hK K; try clear kk
    obtain ⟨total_8, h6, hh⟩ := bind_ex hh
    obtain ⟨pick_9, h7, hh⟩ := bind_ex hh
    refine awp_first fun K kk hK => ?_
    simp only [go_sem]
    refine step_call2 (node_Total_ok _ _ h6) (by (try simp only [go_sem]) <;> exact wkl) (by rfl) (by rfl) ?_
    simp only [go_sem]
    refine step_call2 (diptychlaw5_pick_ok _ _ _ h7) (by (try simp only [go_sem]) <;> exact wkl) (by rfl) (by rfl) ?_
    simp only [go_sem]
    refine hK _ _ fun nx => ?_; clear hK K; try clear kk
    obtain ⟨⟨r_10, r_11⟩, h8, hh⟩ := bind_ex hh
    dsimp only at hh
    refine awp_first fun K kk hK => ?_
    simp only [go_sem]
    refine step_call2 (place_Resolve_ok _ _ _ h8) (by (try simp only [go_sem]) <;> exact wkl) (by rfl) (by rfl) ?_
    simp only [go_sem]
    refine hK _ _ fun nx => ?_; clear hK K; try clear kk
    obtain ⟨⟨r_12, r_13⟩, h9, hh⟩ := bind_ex hh
    dsimp only at hh
    refine awp_first fun K kk hK => ?_
    simp only [go_sem]
    refine step_call2 (place_Resolve_ok _ _ _ h9) (by (try simp only [go_sem]) <;> exact wkl) (by rfl) (by rfl) ?_
    simp only [go_sem]
    refine hK _ _ fun nx => ?_; clear hK K; try clear kk
    refine awp_first fun K kk hK => ?_
    simp only [go_sem]
    refine hK _ _ fun nx => ?_; clear hK K; try clear kk
    refine awp_seq ?_
    refine awp_first fun K kk hK => ?_
    simp only [go_sem]
    refine hK _ _ fun nx => ?_; clear hK K; try clear kk
    obtain ⟨e0, f0, hh⟩ := bind_ex hh
    obtain ⟨hlen0, f0⟩ := chk_some f0
    refine awp_fragE (CutTo (fun s => ∃ one_22, one_22 = e0 ∧ ∃ (i_23 : Int) (v_24 : Bool) (nx : Nat) (g8 : Nat) (g11 : Nat) (g13 : Nat), s = ⟨[(8, .box 8 g8 0), (9, .int .i64 pick_7), (10, .int .i64 pick_9), (11, .box 11 g11 0), (13, .box 13 g13 0), (15, .bool one_22), (16, .int .i64 i_23), (68, .bool v_24)], [(8, g8, .var 28 [.str doc_5.Kind, .str doc_5.Text, .list 1 (doc_5.Marks.map PV.str), .list 2 (doc_5.Attrs.map api_Attr.pv), .list 5 (doc_5.Kids.map api_Node.pv)]), (11, g11, .var 70 [.list 1 (r_10.Path.map (PV.int .i64)), .int .i64 r_10.Index, .int .i64 r_10.Offset]), (13, g13, .var 70 [.list 1 (r_12.Path.map (PV.int .i64)), .int .i64 r_12.Index, .int .i64 r_12.Offset])], nx⟩))
      (fun i s => False)
      (fun s => False) ?_ ?_ ?_ ?_
    · refine awp_block ?_
      refine awp_loopJ fun I hI => ?_
      have key : ∀ (suf pre : List Int) (i_17 : Int) (one_16 : Bool), r_10.Path = pre ++ suf → i_17 = (pre.length : Int) → diptychlaw5_PieceApart_l0 r_12 suf i_17 one_16 = some e0 → ∀ (nx : Nat) (g8 : Nat) (g11 : Nat) (g13 : Nat), I ⟨[(8, .box 8 g8 0), (9, .int .i64 pick_7), (10, .int .i64 pick_9), (11, .box 11 g11 0), (13, .box 13 g13 0), (15, .bool one_16), (16, .int .i64 i_17)], [(8, g8, .var 28 [.str doc_5.Kind, .str doc_5.Text, .list 1 (doc_5.Marks.map PV.str), .list 2 (doc_5.Attrs.map api_Attr.pv), .list 5 (doc_5.Kids.map api_Node.pv)]), (11, g11, .var 70 [.list 1 (r_10.Path.map (PV.int .i64)), .int .i64 r_10.Index, .int .i64 r_10.Offset]), (13, g13, .var 70 [.list 1 (r_12.Path.map (PV.int .i64)), .int .i64 r_12.Index, .int .i64 r_12.Offset])], nx⟩ := by
        intro suf
        induction suf with
        | nil =>
          intro pre i_17 one_16 hsplit hidx hh nx g8 g11 g13
          rw [diptychlaw5_PieceApart_l0] at hh
          refine hI _ ?_
          have h18 := walk_nil hsplit hidx
          refine awp_seq ?_
          refine awp_first fun K kk hK => ?_
          simp only [go_sem, h18, of_decide_eq_false h18, h18, of_decide_eq_false h18]
          (repeat refine sd ?_)
          refine hK _ _ fun nx => ?_; clear hK K; try clear kk
          refine awp_false rfl ?_
          refine awp_exit ?_; refine nmx ?_
          refine fragN ?_
          refine cut_id ?_
          refine ⟨_, (Option.some.inj hh), ?_⟩
          first | exact ⟨_, _, _, _, _, _, rfl⟩ | (simp only [diptychlaw5_Cell.pv_eq, api_Attr.pv_eq, api_Node.pv_eq, place_Spot.pv_eq, piece_flat.pv_eq, diptychref4_Spot.pv_eq, token_Token.pv_eq, pvL, List.map_cons, List.map_nil, List.map_append, rune1]; exact ⟨_, _, _, _, _, _, rfl⟩) | (simp only [diptychlaw5_Cell.pv_eq, api_Attr.pv_eq, api_Node.pv_eq, place_Spot.pv_eq, piece_flat.pv_eq, diptychref4_Spot.pv_eq, token_Token.pv_eq, pvL, List.map_cons, List.map_nil, List.map_append, rune1, h18, h2]; exact ⟨_, _, _, _, _, _, rfl⟩)
        | cons y_20 suf ih =>
          intro pre i_17 one_16 hsplit hidx hh nx g8 g11 g13
          rw [diptychlaw5_PieceApart_l0] at hh
          refine hI _ ?_
          obtain ⟨hl0a, hl0b, hl0d, hl0w, h18⟩ := walk_cons (f := (PV.int .i64)) hsplit hidx hlen0
          refine awp_seq ?_
          refine awp_first fun K kk hK => ?_
          simp only [go_sem, h18, of_decide_eq_true h18, h18, of_decide_eq_true h18, hl0a, hl0b, hl0d, hl0w]
          (repeat refine sd ?_)
          refine hK _ _ fun nx => ?_; clear hK K; try clear kk
          by_cases h19 : (one_16) = true
          · rw [if_pos h19] at hh
            refine awp_true (by first | exact congrArg PV.bool h19 | rfl) ?_
            refine awp_skip ?_; refine nmx ?_
            refine awp_seq ?_
            refine awp_block ?_
            obtain ⟨x_21, h20, hh⟩ := bind_ex hh
            obtain ⟨h20a, h20b, h20c⟩ := rd_some h20
            have h20d := rd_get (f := (PV.int .i64)) h20c
            have h20f := rd_more (f := (PV.int .i64)) h20c
            try simp only [Int.toNat_natCast, Int.reduceToNat] at h20d h20f
            refine awp_region fun K kk hK => ?_
            simp only [go_sem, h20a, h20b, h20d, h20f.1, h20f.2, hl0a, hl0b, hl0d, hl0w]
            (repeat refine sd ?_)
            refine hK _ _ fun nx => ?_; clear hK K; try clear kk
            refine nmx ?_
            refine awp_region fun K kk hK => ?_
            simp only [go_sem, hl0a, hl0b, hl0d, hl0w]
            refine hK _ _ fun nx => ?_; clear hK K; try clear kk
            refine nmx ?_
            have ih' := ih (pre ++ [y_20]) (i_17 + 1) _ (by rw [hsplit]; simp) (by simp [hidx]) hh nx
            refine cut_id ?_
            first | exact ih' _ _ _ | (simp only [diptychlaw5_Cell.pv_eq, api_Attr.pv_eq, api_Node.pv_eq, place_Spot.pv_eq, piece_flat.pv_eq, diptychref4_Spot.pv_eq, token_Token.pv_eq, pvL, List.map_cons, List.map_nil, List.map_append, rune1] at ih' ⊢; exact ih' _ _ _) | (simp only [diptychlaw5_Cell.pv_eq, api_Attr.pv_eq, api_Node.pv_eq, place_Spot.pv_eq, piece_flat.pv_eq, diptychref4_Spot.pv_eq, token_Token.pv_eq, pvL, List.map_cons, List.map_nil, List.map_append, rune1, h18, h19, h2] at ih' ⊢; exact ih' _ _ _)
          · rw [if_neg h19] at hh
            replace h19 := Bool.eq_false_iff.mpr h19
            refine awp_false (by first | exact congrArg PV.bool h19 | rfl) ?_
            refine awp_exit ?_; refine nmx ?_
            refine fragN ?_
            refine cut_id ?_
            refine ⟨_, (Option.some.inj hh), ?_⟩
            first | exact ⟨_, _, _, _, _, _, rfl⟩ | (simp only [diptychlaw5_Cell.pv_eq, api_Attr.pv_eq, api_Node.pv_eq, place_Spot.pv_eq, piece_flat.pv_eq, diptychref4_Spot.pv_eq, token_Token.pv_eq, pvL, List.map_cons, List.map_nil, List.map_append, rune1]; exact ⟨_, _, _, _, _, _, rfl⟩) | (simp only [diptychlaw5_Cell.pv_eq, api_Attr.pv_eq, api_Node.pv_eq, place_Spot.pv_eq, piece_flat.pv_eq, diptychref4_Spot.pv_eq, token_Token.pv_eq, pvL, List.map_cons, List.map_nil, List.map_append, rune1, h18, h19, h2]; exact ⟨_, _, _, _, _, _, rfl⟩)
      exact key r_10.Path [] _ _ rfl rfl f0 _ _ _ _
    · rintro s ⟨t, hless, one_22, rfl, i_23, v_24, nx, g8, g11, g13, rfl⟩
      try dsimp only at hh
      refine nmy ?_
      first | (refine cut_less hless ?_; try refine cut_awp ?_) | refine frag_less hless ?_ | refine body_less hless ?_
      obtain ⟨⟨r_25, r_26⟩, h21, hh⟩ := bind_ex hh
      dsimp only at hh
      refine awp_first fun K kk hK => ?_
      simp only [go_sem]
      refine step_call2 (piece_Cut_ok _ _ _ _ h21) (by (try simp only [go_sem]) <;> exact wkl) (by rfl) (by rfl) ?_
      simp only [go_sem]
      refine hK _ _ fun nx => ?_; clear hK K; try clear kk
      obtain ⟨⟨r_27, r_28⟩, h22, hh⟩ := bind_ex hh
      dsimp only at hh
      refine awp_first fun K kk hK => ?_
      simp only [go_sem]
      refine step_call2 (piece_Put_ok _ _ _ _ _ h22) (by (try simp only [go_sem]) <;> exact wkl) (by rfl) (by rfl) ?_
      simp only [go_sem]
      refine hK _ _ fun nx => ?_; clear hK K; try clear kk
      refine awp_seq ?_
      refine awp_first fun K kk hK => ?_
      simp only [go_sem]
      refine hK _ _ fun nx => ?_; clear hK K; try clear kk
      by_cases h23 : (!one_22) = true
      · rw [if_pos h23] at hh
        refine awp_true (by first | exact congrArg PV.bool h23 | rfl) ?_
        by_cases h24 : (r_26 == (10 : Int)) = true
        · rw [if_pos h24] at hh
          by_cases h25 : (r_28 == (10 : Int)) = true
          · rw [if_pos h25] at hh
            by_cases h26 : ((r_25.length : Int) == (0 : Int)) = true
            · rw [if_pos h26] at hh
              refine awp_first fun K kk hK => ?_
              simp only [go_sem, h24, h24, h25, h25, h26, h26]
              (repeat refine sd ?_)
              refine hK _ _ fun nx => ?_; clear hK K; try clear kk
              refine awp_ret ?_; refine nmx ?_
              obtain hR := Option.some.inj hh
              subst hR
              exact ret_p2
            · rw [if_neg h26] at hh
              replace h26 := Bool.eq_false_iff.mpr h26
              refine awp_first fun K kk hK => ?_
              simp only [go_sem, h24, h24, h25, h25, h26, h26]
              (repeat refine sd ?_)
              refine hK _ _ fun nx => ?_; clear hK K; try clear kk
              refine awp_ret ?_; refine nmx ?_
              obtain hR := Option.some.inj hh
              subst hR
              exact ret_p2
          · rw [if_neg h25] at hh
            replace h25 := Bool.eq_false_iff.mpr h25
            refine awp_first fun K kk hK => ?_
            simp only [go_sem, h24, h24, h25, h25]
            (repeat refine sd ?_)
            refine hK _ _ fun nx => ?_; clear hK K; try clear kk
            refine awp_ret ?_; refine nmx ?_
            obtain hR := Option.some.inj hh
            subst hR
            exact ret_p2
        · rw [if_neg h24] at hh
          replace h24 := Bool.eq_false_iff.mpr h24
          refine awp_first fun K kk hK => ?_
          simp only [go_sem, h24, h24]
          (repeat refine sd ?_)
          refine hK _ _ fun nx => ?_; clear hK K; try clear kk
          refine awp_ret ?_; refine nmx ?_
          obtain hR := Option.some.inj hh
          subst hR
          exact ret_p2
      · rw [if_neg h23] at hh
        replace h23 := Bool.eq_false_iff.mpr h23
        refine awp_false (by first | exact congrArg PV.bool h23 | rfl) ?_
        refine awp_skip ?_; refine nmx ?_
        by_cases h27 : (r_26 == (0 : Int)) = true
        · rw [if_pos h27] at hh
          by_cases h28 : (r_28 == (0 : Int)) = true
          · rw [if_pos h28] at hh
            obtain ⟨total_29, h29, hh⟩ := bind_ex hh
            refine awp_first fun K kk hK => ?_
            simp only [go_sem, h27, h27, h28, h28]
            (repeat refine sd ?_)
            refine step_call2 (node_Total_ok _ _ h29) (by (try simp only [go_sem, h27, h27, h28, h28]) <;> exact wkl) (by rfl) (by rfl) ?_
            simp only [go_sem, h27, h27, h28, h28]
            (repeat refine sd ?_)
            refine hK _ _ fun nx => ?_; clear hK K; try clear kk
            refine awp_ret ?_; refine nmx ?_
            obtain hR := Option.some.inj hh
            subst hR
            exact ret_p2
          · rw [if_neg h28] at hh
            replace h28 := Bool.eq_false_iff.mpr h28
            refine awp_first fun K kk hK => ?_
            simp only [go_sem, h27, h27, h28, h28]
            (repeat refine sd ?_)
            refine hK _ _ fun nx => ?_; clear hK K; try clear kk
            refine awp_ret ?_; refine nmx ?_
            obtain hR := Option.some.inj hh
            subst hR
            exact ret_p2
        · rw [if_neg h27] at hh
          replace h27 := Bool.eq_false_iff.mpr h27
          refine awp_first fun K kk hK => ?_
          simp only [go_sem, h27, h27]
          (repeat refine sd ?_)
          refine hK _ _ fun nx => ?_; clear hK K; try clear kk
          refine awp_ret ?_; refine nmx ?_
          obtain hR := Option.some.inj hh
          subst hR
          exact ret_p2
    · intro i s h; exact h.elim
    · intro s h; exact h.elim
theorem slices_Equal_api_Attr_ok (s1_1 : (List api_Attr)) (s2_2 : (List api_Attr)) (R : Bool) (hh : slices_Equal_api_Attr s1_1 s2_2 = some R) : PC Tryd.prog 56 [.list 2 (s1_1.map api_Attr.pv), .list 2 (s2_2.map api_Attr.pv)] (.bool R) := by
  rw [slices_Equal_api_Attr] at hh
  refine start_slices_Equal_api_Attr rfl ?_
  refine awp_first fun K kk hK => ?_
  simp only [go_sem]
  refine hK _ _ fun nx => ?_; clear hK K; try clear kk
  refine awp_seq ?_
  refine awp_first fun K kk hK => ?_
  simp only [go_sem]
  refine hK _ _ fun nx => ?_; clear hK K; try clear kk
  by_cases h1 : ((s1_1.length : Int) != (s2_2.length : Int)) = true
  · rw [if_pos h1] at hh
    refine awp_true (by first | exact congrArg PV.bool h1 | rfl) ?_
    refine awp_first fun K kk hK => ?_
    simp only [go_sem]
    refine hK _ _ fun nx => ?_; clear hK K; try clear kk
    refine awp_ret ?_; refine nmx ?_
    obtain hR := Option.some.inj hh
    subst hR
    exact ret_p2
  · rw [if_neg h1] at hh
    replace h1 := Bool.eq_false_iff.mpr h1
    refine awp_false (by first | exact congrArg PV.bool h1 | rfl) ?_
    refine awp_skip ?_; refine nmx ?_
    refine awp_seq ?_
    refine awp_first fun K kk hK => ?_
    simp only [go_sem]
    refine hK _ _ fun nx => ?_; clear hK K; try clear kk
    obtain ⟨e0, f0, hh⟩ := bind_ex hh
    obtain ⟨hlen0, f0⟩ := chk_some f0
    refine awp_fragE (CutTo (fun s => .inr () = e0 ∧ ∃ (v_11 : Int) (v_12 : Bool) (nx : Nat), s = ⟨[(0, .list 2 (s1_1.map api_Attr.pv)), (1, .list 2 (s2_2.map api_Attr.pv)), (12, .int .i64 (s1_1.length : Int)), (13, .int .i64 v_11), (14, .bool v_12)], [], nx⟩))
      (fun i s => False)
      (fun s => ∃ res_10, .inl res_10 = e0 ∧ bodyR Tryd.prog [.tmp 4] (.bool res_10) [] .ret s) ?_ ?_ ?_ ?_
    · refine awp_block ?_
      refine awp_loopJ fun I hI => ?_
      have key : ∀ (suf pre : List api_Attr) (v_5 : Int), s1_1 = pre ++ suf → v_5 = (pre.length : Int) → slices_Equal_api_Attr_l0 s2_2 suf v_5 = some e0 → ∀ (nx : Nat), I ⟨[(0, .list 2 (s1_1.map api_Attr.pv)), (1, .list 2 (s2_2.map api_Attr.pv)), (12, .int .i64 (s1_1.length : Int)), (13, .int .i64 v_5)], [], nx⟩ := by
        intro suf
        induction suf with
        | nil =>
          intro pre v_5 hsplit hidx hh nx
          rw [slices_Equal_api_Attr_l0] at hh
          refine hI _ ?_
          have h10 := walk_nil hsplit hidx
          refine awp_first fun K kk hK => ?_
          simp only [go_sem]
          refine hK _ _ fun nx => ?_; clear hK K; try clear kk
          refine awp_seq ?_
          refine awp_false (by first | exact congrArg PV.bool h10 | rfl) ?_
          refine awp_exit ?_; refine nmx ?_
          refine fragN ?_
          refine cut_id ?_
          refine ⟨(Option.some.inj hh), ?_⟩
          first | exact ⟨_, _, _, rfl⟩ | (simp only [diptychlaw5_Cell.pv_eq, api_Attr.pv_eq, api_Node.pv_eq, place_Spot.pv_eq, piece_flat.pv_eq, diptychref4_Spot.pv_eq, token_Token.pv_eq, pvL, List.map_cons, List.map_nil, List.map_append, rune1]; exact ⟨_, _, _, rfl⟩) | (simp only [diptychlaw5_Cell.pv_eq, api_Attr.pv_eq, api_Node.pv_eq, place_Spot.pv_eq, piece_flat.pv_eq, diptychref4_Spot.pv_eq, token_Token.pv_eq, pvL, List.map_cons, List.map_nil, List.map_append, rune1, h1, h10]; exact ⟨_, _, _, rfl⟩)
        | cons y_8 suf ih =>
          intro pre v_5 hsplit hidx hh nx
          rw [slices_Equal_api_Attr_l0] at hh
          refine hI _ ?_
          obtain ⟨hl0a, hl0b, hl0d, hl0w, h10⟩ := walk_cons (f := api_Attr.pv) hsplit hidx hlen0
          refine awp_first fun K kk hK => ?_
          simp only [go_sem]
          refine hK _ _ fun nx => ?_; clear hK K; try clear kk
          refine awp_seq ?_
          refine awp_true (by first | exact congrArg PV.bool h10 | rfl) ?_
          refine awp_skip ?_; refine nmx ?_
          refine awp_seq ?_
          refine awp_block ?_
          refine awp_first fun K kk hK => ?_
          simp only [go_sem, hl0a, hl0b, hl0d, hl0w]
          refine hK _ _ fun nx => ?_; clear hK K; try clear kk
          obtain ⟨x_9, h11, hh⟩ := bind_ex hh
          obtain ⟨h11a, h11b, h11c⟩ := rd_some h11
          have h11d := rd_get (f := api_Attr.pv) h11c
          have h11f := rd_more (f := api_Attr.pv) h11c
          try simp only [Int.toNat_natCast, Int.reduceToNat] at h11d h11f
          refine awp_first fun K kk hK => ?_
          simp only [go_sem, h11a, h11b, h11d, h11f.1, h11f.2, hl0a, hl0b, hl0d, hl0w]
          (repeat refine sd ?_)
          refine hK _ _ fun nx => ?_; clear hK K; try clear kk
          by_cases h12 : ((((y_8.Name == x_9.Name) && (y_8.Value == x_9.Value)) != true)) = true
          · rw [if_pos h12] at hh
            refine awp_true (by first | exact congrArg PV.bool h12 | rfl) ?_
            refine awp_first fun K kk hK => ?_
            simp only [go_sem, hl0a, hl0b, hl0d, hl0w]
            refine hK _ _ fun nx => ?_; clear hK K; try clear kk
            refine awp_ret ?_; refine nmx ?_
            refine fragR ⟨_, (Option.some.inj hh), ?_⟩
            exact ret_p2
          · rw [if_neg h12] at hh
            replace h12 := Bool.eq_false_iff.mpr h12
            refine awp_false (by first | exact congrArg PV.bool h12 | rfl) ?_
            refine awp_skip ?_; refine nmx ?_
            refine awp_region fun K kk hK => ?_
            simp only [go_sem, hl0a, hl0b, hl0d, hl0w]
            refine hK _ _ fun nx => ?_; clear hK K; try clear kk
            refine nmx ?_
            have ih' := ih (pre ++ [y_8]) (v_5 + 1) (by rw [hsplit]; simp) (by simp [hidx]) hh nx
            refine cut_id ?_
            first | exact ih' | (simp only [diptychlaw5_Cell.pv_eq, api_Attr.pv_eq, api_Node.pv_eq, place_Spot.pv_eq, piece_flat.pv_eq, diptychref4_Spot.pv_eq, token_Token.pv_eq, pvL, List.map_cons, List.map_nil, List.map_append, rune1] at ih' ⊢; exact ih') | (simp only [diptychlaw5_Cell.pv_eq, api_Attr.pv_eq, api_Node.pv_eq, place_Spot.pv_eq, piece_flat.pv_eq, diptychref4_Spot.pv_eq, token_Token.pv_eq, pvL, List.map_cons, List.map_nil, List.map_append, rune1, h1, h10, h12] at ih' ⊢; exact ih')
      exact key s1_1 [] _ rfl rfl f0 _
    · rintro s ⟨t, hless, rfl, v_11, v_12, nx, rfl⟩
      try dsimp only at hh
      refine nmy ?_
      first | (refine cut_less hless ?_; try refine cut_awp ?_) | refine frag_less hless ?_ | refine body_less hless ?_
      refine awp_first fun K kk hK => ?_
      simp only [go_sem]
      refine hK _ _ fun nx => ?_; clear hK K; try clear kk
      refine awp_ret ?_; refine nmx ?_
      obtain hR := Option.some.inj hh
      subst hR
      exact ret_p2
    · intro i s h; exact h.elim
    · rintro s ⟨res_10, rfl, hb⟩
      try dsimp only at hh
      obtain hR := Option.some.inj hh
      subst hR
      refine nmx ?_
      exact hb
theorem slices_EqualFunc_api_Node_node_Same_grp : ∀ kr : Nat, (∀ (s1_1 : (List api_Node)) (s2_2 : (List api_Node)) (R : Bool), slices_EqualFunc_api_Node_node_Same_k kr s1_1 s2_2 = some R → PC Tryd.prog 57 [.list 5 (s1_1.map api_Node.pv), .list 5 (s2_2.map api_Node.pv), .fn 17 []] (.bool R)) ∧
    (∀ (a_1 : api_Node) (b_2 : api_Node) (R : Bool), node_Same_k kr a_1 b_2 = some R → PC Tryd.prog 17 [.agg [.str a_1.Kind, .str a_1.Text, .list 1 (a_1.Marks.map PV.str), .list 2 (a_1.Attrs.map api_Attr.pv), .list 5 (a_1.Kids.map api_Node.pv)], .agg [.str b_2.Kind, .str b_2.Text, .list 1 (b_2.Marks.map PV.str), .list 2 (b_2.Attrs.map api_Attr.pv), .list 5 (b_2.Kids.map api_Node.pv)]] (.bool R)) := by
  intro kr
  induction kr with
  | zero => exact ⟨(by intro s1_1 s2_2 R hh; rw [slices_EqualFunc_api_Node_node_Same_k] at hh; cases hh), (by intro a_1 b_2 R hh; rw [node_Same_k] at hh; cases hh)⟩
  | succ kr ih =>
    obtain ⟨ih_slices_EqualFunc_api_Node_node_Same, ih_node_Same⟩ := ih
    refine ⟨?_, ?_⟩
    · intro s1_1 s2_2 R hh
      rw [slices_EqualFunc_api_Node_node_Same_k] at hh
      refine start_slices_EqualFunc_api_Node_node_Same rfl ?_
      refine awp_first fun K kk hK => ?_
      simp only [go_sem]
      refine hK _ _ fun nx => ?_; clear hK K; try clear kk
      refine awp_seq ?_
      refine awp_first fun K kk hK => ?_
      simp only [go_sem]
      refine hK _ _ fun nx => ?_; clear hK K; try clear kk
      by_cases h1 : ((s1_1.length : Int) != (s2_2.length : Int)) = true
      · rw [if_pos h1] at hh
        refine awp_true (by first | exact congrArg PV.bool h1 | rfl) ?_
        refine awp_first fun K kk hK => ?_
        simp only [go_sem]
        refine hK _ _ fun nx => ?_; clear hK K; try clear kk
        refine awp_ret ?_; refine nmx ?_
        obtain hR := Option.some.inj hh
        subst hR
        exact ret_p2
      · rw [if_neg h1] at hh
        replace h1 := Bool.eq_false_iff.mpr h1
        refine awp_false (by first | exact congrArg PV.bool h1 | rfl) ?_
        refine awp_skip ?_; refine nmx ?_
        refine awp_seq ?_
        refine awp_first fun K kk hK => ?_
        simp only [go_sem]
        refine hK _ _ fun nx => ?_; clear hK K; try clear kk
        obtain ⟨e0, f0, hh⟩ := bind_ex hh
        obtain ⟨hlen0, f0⟩ := chk_some f0
        refine awp_fragE (CutTo (fun s => .inr () = e0 ∧ ∃ (v_14 : Int) (v_15 : Bool) (nx : Nat), s = ⟨[(1, .list 5 (s2_2.map api_Node.pv)), (2, .fn 17 []), (15, .list 5 (s1_1.map api_Node.pv)), (16, .int .i64 (s1_1.length : Int)), (17, .int .i64 v_14), (18, .bool v_15)], [], nx⟩))
          (fun i s => False)
          (fun s => ∃ res_13, .inl res_13 = e0 ∧ bodyR Tryd.prog [.tmp 6] (.bool res_13) [] .ret s) ?_ ?_ ?_ ?_
        · refine awp_block ?_
          refine awp_loopJ fun I hI => ?_
          have key : ∀ (suf pre : List api_Node) (v_6 : Int), s1_1 = pre ++ suf → v_6 = (pre.length : Int) → slices_EqualFunc_api_Node_node_Same_l0 s2_2 (node_Same_k kr) suf v_6 = some e0 → ∀ (nx : Nat), I ⟨[(1, .list 5 (s2_2.map api_Node.pv)), (2, .fn 17 []), (15, .list 5 (s1_1.map api_Node.pv)), (16, .int .i64 (s1_1.length : Int)), (17, .int .i64 v_6)], [], nx⟩ := by
            intro suf
            induction suf with
            | nil =>
              intro pre v_6 hsplit hidx hh nx
              rw [slices_EqualFunc_api_Node_node_Same_l0] at hh
              refine hI _ ?_
              have h12 := walk_nil hsplit hidx
              refine awp_first fun K kk hK => ?_
              simp only [go_sem]
              refine hK _ _ fun nx => ?_; clear hK K; try clear kk
              refine awp_seq ?_
              refine awp_false (by first | exact congrArg PV.bool h12 | rfl) ?_
              refine awp_exit ?_; refine nmx ?_
              refine fragN ?_
              refine cut_id ?_
              refine ⟨(Option.some.inj hh), ?_⟩
              first | exact ⟨_, _, _, rfl⟩ | (simp only [diptychlaw5_Cell.pv_eq, api_Attr.pv_eq, api_Node.pv_eq, place_Spot.pv_eq, piece_flat.pv_eq, diptychref4_Spot.pv_eq, token_Token.pv_eq, pvL, List.map_cons, List.map_nil, List.map_append, rune1]; exact ⟨_, _, _, rfl⟩) | (simp only [diptychlaw5_Cell.pv_eq, api_Attr.pv_eq, api_Node.pv_eq, place_Spot.pv_eq, piece_flat.pv_eq, diptychref4_Spot.pv_eq, token_Token.pv_eq, pvL, List.map_cons, List.map_nil, List.map_append, rune1, h1, h12]; exact ⟨_, _, _, rfl⟩)
            | cons y_10 suf ih =>
              intro pre v_6 hsplit hidx hh nx
              rw [slices_EqualFunc_api_Node_node_Same_l0] at hh
              refine hI _ ?_
              obtain ⟨hl0a, hl0b, hl0d, hl0w, h12⟩ := walk_cons (f := api_Node.pv) hsplit hidx hlen0
              refine awp_first fun K kk hK => ?_
              simp only [go_sem]
              refine hK _ _ fun nx => ?_; clear hK K; try clear kk
              refine awp_seq ?_
              refine awp_true (by first | exact congrArg PV.bool h12 | rfl) ?_
              refine awp_skip ?_; refine nmx ?_
              refine awp_seq ?_
              refine awp_block ?_
              refine awp_first fun K kk hK => ?_
              simp only [go_sem, hl0a, hl0b, hl0d, hl0w]
              refine hK _ _ fun nx => ?_; clear hK K; try clear kk
              obtain ⟨x_11, h13, hh⟩ := bind_ex hh
              obtain ⟨h13a, h13b, h13c⟩ := rd_some h13
              have h13d := rd_get (f := api_Node.pv) h13c
              have h13f := rd_more (f := api_Node.pv) h13c
              try simp only [Int.toNat_natCast, Int.reduceToNat] at h13d h13f
              refine awp_first fun K kk hK => ?_
              simp only [go_sem, h13a, h13b, h13d, h13f.1, h13f.2, hl0a, hl0b, hl0d, hl0w]
              (repeat refine sd ?_)
              refine hK _ _ fun nx => ?_; clear hK K; try clear kk
              obtain ⟨same_12, h14, hh⟩ := bind_ex hh
              refine awp_first fun K kk hK => ?_
              simp only [go_sem, hl0a, hl0b, hl0d, hl0w]
              refine step_call2 (ih_node_Same _ _ _ h14) (by (try simp only [go_sem, hl0a, hl0b, hl0d, hl0w]) <;> exact wkl) (by rfl) (by rfl) ?_
              simp only [go_sem, hl0a, hl0b, hl0d, hl0w]
              refine hK _ _ fun nx => ?_; clear hK K; try clear kk
              by_cases h15 : (!same_12) = true
              · rw [if_pos h15] at hh
                refine awp_true (by first | exact congrArg PV.bool h15 | rfl) ?_
                refine awp_first fun K kk hK => ?_
                simp only [go_sem, hl0a, hl0b, hl0d, hl0w]
                refine hK _ _ fun nx => ?_; clear hK K; try clear kk
                refine awp_ret ?_; refine nmx ?_
                refine fragR ⟨_, (Option.some.inj hh), ?_⟩
                exact ret_p2
              · rw [if_neg h15] at hh
                replace h15 := Bool.eq_false_iff.mpr h15
                refine awp_false (by first | exact congrArg PV.bool h15 | rfl) ?_
                refine awp_skip ?_; refine nmx ?_
                refine awp_region fun K kk hK => ?_
                simp only [go_sem, hl0a, hl0b, hl0d, hl0w]
                refine hK _ _ fun nx => ?_; clear hK K; try clear kk
                refine nmx ?_
                have ih' := ih (pre ++ [y_10]) (v_6 + 1) (by rw [hsplit]; simp) (by simp [hidx]) hh nx
                refine cut_id ?_
                first | exact ih' | (simp only [diptychlaw5_Cell.pv_eq, api_Attr.pv_eq, api_Node.pv_eq, place_Spot.pv_eq, piece_flat.pv_eq, diptychref4_Spot.pv_eq, token_Token.pv_eq, pvL, List.map_cons, List.map_nil, List.map_append, rune1] at ih' ⊢; exact ih') | (simp only [diptychlaw5_Cell.pv_eq, api_Attr.pv_eq, api_Node.pv_eq, place_Spot.pv_eq, piece_flat.pv_eq, diptychref4_Spot.pv_eq, token_Token.pv_eq, pvL, List.map_cons, List.map_nil, List.map_append, rune1, h1, h12, h15] at ih' ⊢; exact ih')
          exact key s1_1 [] _ rfl rfl f0 _
        · rintro s ⟨t, hless, rfl, v_14, v_15, nx, rfl⟩
          try dsimp only at hh
          refine nmy ?_
          first | (refine cut_less hless ?_; try refine cut_awp ?_) | refine frag_less hless ?_ | refine body_less hless ?_
          refine awp_first fun K kk hK => ?_
          simp only [go_sem]
          refine hK _ _ fun nx => ?_; clear hK K; try clear kk
          refine awp_ret ?_; refine nmx ?_
          obtain hR := Option.some.inj hh
          subst hR
          exact ret_p2
        · intro i s h; exact h.elim
        · rintro s ⟨res_13, rfl, hb⟩
          try dsimp only at hh
          obtain hR := Option.some.inj hh
          subst hR
          refine nmx ?_
          exact hb
    · intro a_1 b_2 R hh
      rw [node_Same_k] at hh
      refine start_node_Same rfl ?_
      refine awp_first fun K kk hK => ?_
      simp only [go_sem]
      refine hK _ _ fun nx => ?_; clear hK K; try clear kk
      by_cases h1 : (a_1.Kind == b_2.Kind) = true
      · rw [if_pos h1] at hh
        by_cases h2 : (a_1.Text == b_2.Text) = true
        · rw [if_pos h2] at hh
          obtain ⟨string_3, h3, hh⟩ := bind_ex hh
          by_cases h4 : (string_3) = true
          · rw [if_pos h4] at hh
            obtain ⟨attr_4, h5, hh⟩ := bind_ex hh
            by_cases h6 : (attr_4) = true
            · rw [if_pos h6] at hh
              obtain ⟨node_5, h7, hh⟩ := bind_ex hh
              refine awp_first fun K kk hK => ?_
              simp only [go_sem, h1, h1, h2, h2, h4, h4, h6, h6]
              (repeat refine sd ?_)
              refine step_call2 (slices_Equal_string_ok _ _ _ h3) (by (try simp only [go_sem, h1, h1, h2, h2, h4, h4, h6, h6]) <;> exact wkl) (by rfl) (by rfl) ?_
              simp only [go_sem, h1, h1, h2, h2, h4, h4, h6, h6]
              (repeat refine sd ?_)
              refine step_call2 (slices_Equal_api_Attr_ok _ _ _ h5) (by (try simp only [go_sem, h1, h1, h2, h2, h4, h4, h6, h6]) <;> exact wkl) (by rfl) (by rfl) ?_
              simp only [go_sem, h1, h1, h2, h2, h4, h4, h6, h6]
              (repeat refine sd ?_)
              refine step_call2 (ih_slices_EqualFunc_api_Node_node_Same _ _ _ h7) (by (try simp only [go_sem, h1, h1, h2, h2, h4, h4, h6, h6]) <;> exact wkl) (by rfl) (by rfl) ?_
              simp only [go_sem, h1, h1, h2, h2, h4, h4, h6, h6]
              (repeat refine sd ?_)
              refine hK _ _ fun nx => ?_; clear hK K; try clear kk
              refine awp_ret ?_; refine nmx ?_
              obtain hR := Option.some.inj hh
              subst hR
              exact ret_p2
            · rw [if_neg h6] at hh
              replace h6 := Bool.eq_false_iff.mpr h6
              refine awp_first fun K kk hK => ?_
              simp only [go_sem, h1, h1, h2, h2, h4, h4, h6, h6]
              (repeat refine sd ?_)
              refine step_call2 (slices_Equal_string_ok _ _ _ h3) (by (try simp only [go_sem, h1, h1, h2, h2, h4, h4, h6, h6]) <;> exact wkl) (by rfl) (by rfl) ?_
              simp only [go_sem, h1, h1, h2, h2, h4, h4, h6, h6]
              (repeat refine sd ?_)
              refine step_call2 (slices_Equal_api_Attr_ok _ _ _ h5) (by (try simp only [go_sem, h1, h1, h2, h2, h4, h4, h6, h6]) <;> exact wkl) (by rfl) (by rfl) ?_
              simp only [go_sem, h1, h1, h2, h2, h4, h4, h6, h6]
              (repeat refine sd ?_)
              refine hK _ _ fun nx => ?_; clear hK K; try clear kk
              refine awp_ret ?_; refine nmx ?_
              obtain hR := Option.some.inj hh
              subst hR
              exact ret_p2
          · rw [if_neg h4] at hh
            replace h4 := Bool.eq_false_iff.mpr h4
            refine awp_first fun K kk hK => ?_
            simp only [go_sem, h1, h1, h2, h2, h4, h4]
            (repeat refine sd ?_)
            refine step_call2 (slices_Equal_string_ok _ _ _ h3) (by (try simp only [go_sem, h1, h1, h2, h2, h4, h4]) <;> exact wkl) (by rfl) (by rfl) ?_
            simp only [go_sem, h1, h1, h2, h2, h4, h4]
            (repeat refine sd ?_)
            refine hK _ _ fun nx => ?_; clear hK K; try clear kk
            refine awp_ret ?_; refine nmx ?_
            obtain hR := Option.some.inj hh
            subst hR
            exact ret_p2
        · rw [if_neg h2] at hh
          replace h2 := Bool.eq_false_iff.mpr h2
          refine awp_first fun K kk hK => ?_
          simp only [go_sem, h1, h1, h2, h2]
          (repeat refine sd ?_)
          refine hK _ _ fun nx => ?_; clear hK K; try clear kk
          refine awp_ret ?_; refine nmx ?_
          obtain hR := Option.some.inj hh
          subst hR
          exact ret_p2
      · rw [if_neg h1] at hh
        replace h1 := Bool.eq_false_iff.mpr h1
        refine awp_first fun K kk hK => ?_
        simp only [go_sem, h1, h1]
        (repeat refine sd ?_)
        refine hK _ _ fun nx => ?_; clear hK K; try clear kk
        refine awp_ret ?_; refine nmx ?_
        obtain hR := Option.some.inj hh
        subst hR
        exact ret_p2
theorem slices_EqualFunc_api_Node_node_Same_ok (s1_1 : (List api_Node)) (s2_2 : (List api_Node)) (R : Bool) (hh : slices_EqualFunc_api_Node_node_Same s1_1 s2_2 = some R) : PC Tryd.prog 57 [.list 5 (s1_1.map api_Node.pv), .list 5 (s2_2.map api_Node.pv), .fn 17 []] (.bool R) := by
  rw [slices_EqualFunc_api_Node_node_Same] at hh
  obtain ⟨kr, hh⟩ := lim_some hh
  exact (slices_EqualFunc_api_Node_node_Same_grp kr).1 _ _ _ hh
theorem node_Same_ok (a_1 : api_Node) (b_2 : api_Node) (R : Bool) (hh : node_Same a_1 b_2 = some R) : PC Tryd.prog 17 [.agg [.str a_1.Kind, .str a_1.Text, .list 1 (a_1.Marks.map PV.str), .list 2 (a_1.Attrs.map api_Attr.pv), .list 5 (a_1.Kids.map api_Node.pv)], .agg [.str b_2.Kind, .str b_2.Text, .list 1 (b_2.Marks.map PV.str), .list 2 (b_2.Attrs.map api_Attr.pv), .list 5 (b_2.Kids.map api_Node.pv)]] (.bool R) := by
  rw [node_Same] at hh
  obtain ⟨kr, hh⟩ := lim_some hh
  exact (slices_EqualFunc_api_Node_node_Same_grp kr).2 _ _ _ hh
theorem diptychref4_same_ok (a_1 : (List Int)) (b_2 : (List Int)) (R : Bool) (hh : diptychref4_same a_1 b_2 = some R) : PC Tryd.prog 99 [.list 1 (a_1.map (PV.int .i64)), .list 1 (b_2.map (PV.int .i64))] (.bool R) := by
  rw [diptychref4_same] at hh
  refine start_diptychref4_same rfl ?_
  refine awp_first fun K kk hK => ?_
  simp only [go_sem]
  refine hK _ _ fun nx => ?_; clear hK K; try clear kk
  refine awp_seq ?_
  refine awp_first fun K kk hK => ?_
  simp only [go_sem]
  refine hK _ _ fun nx => ?_; clear hK K; try clear kk
  by_cases h1 : ((a_1.length : Int) != (b_2.length : Int)) = true
  · rw [if_pos h1] at hh
    refine awp_true (by first | exact congrArg PV.bool h1 | rfl) ?_
    refine awp_first fun K kk hK => ?_
    simp only [go_sem]
    refine hK _ _ fun nx => ?_; clear hK K; try clear kk
    refine awp_ret ?_; refine nmx ?_
    obtain hR := Option.some.inj hh
    subst hR
    exact ret_p2
  · rw [if_neg h1] at hh
    replace h1 := Bool.eq_false_iff.mpr h1
    refine awp_false (by first | exact congrArg PV.bool h1 | rfl) ?_
    refine awp_skip ?_; refine nmx ?_
    refine awp_seq ?_
    refine awp_first fun K kk hK => ?_
    simp only [go_sem]
    refine hK _ _ fun nx => ?_; clear hK K; try clear kk
    obtain ⟨e0, f0, hh⟩ := bind_ex hh
    obtain ⟨hlen0, f0⟩ := chk_some f0
    refine awp_fragE (CutTo (fun s => .inr () = e0 ∧ ∃ (i_11 : Int) (v_12 : Bool) (nx : Nat), s = ⟨[(0, .list 1 (a_1.map (PV.int .i64))), (1, .list 1 (b_2.map (PV.int .i64))), (5, .int .i64 i_11), (14, .bool v_12)], [], nx⟩))
      (fun i s => False)
      (fun s => ∃ res_10, .inl res_10 = e0 ∧ bodyR Tryd.prog [.tmp 4] (.bool res_10) [] .ret s) ?_ ?_ ?_ ?_
    · refine awp_block ?_
      refine awp_loopJ fun I hI => ?_
      have key : ∀ (suf pre : List Int) (i_5 : Int), a_1 = pre ++ suf → i_5 = (pre.length : Int) → diptychref4_same_l0 b_2 suf i_5 = some e0 → ∀ (nx : Nat), I ⟨[(0, .list 1 (a_1.map (PV.int .i64))), (1, .list 1 (b_2.map (PV.int .i64))), (5, .int .i64 i_5)], [], nx⟩ := by
        intro suf
        induction suf with
        | nil =>
          intro pre i_5 hsplit hidx hh nx
          rw [diptychref4_same_l0] at hh
          refine hI _ ?_
          have h10 := walk_nil hsplit hidx
          refine awp_seq ?_
          refine awp_first fun K kk hK => ?_
          simp only [go_sem]
          refine hK _ _ fun nx => ?_; clear hK K; try clear kk
          refine awp_false (by first | exact congrArg PV.bool h10 | rfl) ?_
          refine awp_exit ?_; refine nmx ?_
          refine fragN ?_
          refine cut_id ?_
          refine ⟨(Option.some.inj hh), ?_⟩
          first | exact ⟨_, _, _, rfl⟩ | (simp only [diptychlaw5_Cell.pv_eq, api_Attr.pv_eq, api_Node.pv_eq, place_Spot.pv_eq, piece_flat.pv_eq, diptychref4_Spot.pv_eq, token_Token.pv_eq, pvL, List.map_cons, List.map_nil, List.map_append, rune1]; exact ⟨_, _, _, rfl⟩) | (simp only [diptychlaw5_Cell.pv_eq, api_Attr.pv_eq, api_Node.pv_eq, place_Spot.pv_eq, piece_flat.pv_eq, diptychref4_Spot.pv_eq, token_Token.pv_eq, pvL, List.map_cons, List.map_nil, List.map_append, rune1, h1, h10]; exact ⟨_, _, _, rfl⟩)
        | cons y_8 suf ih =>
          intro pre i_5 hsplit hidx hh nx
          rw [diptychref4_same_l0] at hh
          refine hI _ ?_
          obtain ⟨hl0a, hl0b, hl0d, hl0w, h10⟩ := walk_cons (f := (PV.int .i64)) hsplit hidx hlen0
          refine awp_seq ?_
          refine awp_first fun K kk hK => ?_
          simp only [go_sem]
          refine hK _ _ fun nx => ?_; clear hK K; try clear kk
          refine awp_true (by first | exact congrArg PV.bool h10 | rfl) ?_
          refine awp_skip ?_; refine nmx ?_
          refine awp_seq ?_
          refine awp_block ?_
          obtain ⟨x_9, h11, hh⟩ := bind_ex hh
          obtain ⟨h11a, h11b, h11c⟩ := rd_some h11
          have h11d := rd_get (f := (PV.int .i64)) h11c
          have h11f := rd_more (f := (PV.int .i64)) h11c
          try simp only [Int.toNat_natCast, Int.reduceToNat] at h11d h11f
          refine awp_first fun K kk hK => ?_
          simp only [go_sem, h11a, h11b, h11d, h11f.1, h11f.2, hl0a, hl0b, hl0d, hl0w]
          (repeat refine sd ?_)
          refine hK _ _ fun nx => ?_; clear hK K; try clear kk
          by_cases h12 : (y_8 != x_9) = true
          · rw [if_pos h12] at hh
            refine awp_true (by first | exact congrArg PV.bool h12 | rfl) ?_
            refine awp_first fun K kk hK => ?_
            simp only [go_sem, hl0a, hl0b, hl0d, hl0w]
            refine hK _ _ fun nx => ?_; clear hK K; try clear kk
            refine awp_ret ?_; refine nmx ?_
            refine fragR ⟨_, (Option.some.inj hh), ?_⟩
            exact ret_p2
          · rw [if_neg h12] at hh
            replace h12 := Bool.eq_false_iff.mpr h12
            refine awp_false (by first | exact congrArg PV.bool h12 | rfl) ?_
            refine awp_skip ?_; refine nmx ?_
            refine awp_region fun K kk hK => ?_
            simp only [go_sem, hl0a, hl0b, hl0d, hl0w]
            refine hK _ _ fun nx => ?_; clear hK K; try clear kk
            refine nmx ?_
            have ih' := ih (pre ++ [y_8]) (i_5 + 1) (by rw [hsplit]; simp) (by simp [hidx]) hh nx
            refine cut_id ?_
            first | exact ih' | (simp only [diptychlaw5_Cell.pv_eq, api_Attr.pv_eq, api_Node.pv_eq, place_Spot.pv_eq, piece_flat.pv_eq, diptychref4_Spot.pv_eq, token_Token.pv_eq, pvL, List.map_cons, List.map_nil, List.map_append, rune1] at ih' ⊢; exact ih') | (simp only [diptychlaw5_Cell.pv_eq, api_Attr.pv_eq, api_Node.pv_eq, place_Spot.pv_eq, piece_flat.pv_eq, diptychref4_Spot.pv_eq, token_Token.pv_eq, pvL, List.map_cons, List.map_nil, List.map_append, rune1, h1, h10, h12] at ih' ⊢; exact ih')
      exact key a_1 [] _ rfl rfl f0 _
    · rintro s ⟨t, hless, rfl, i_11, v_12, nx, rfl⟩
      try dsimp only at hh
      refine nmy ?_
      first | (refine cut_less hless ?_; try refine cut_awp ?_) | refine frag_less hless ?_ | refine body_less hless ?_
      refine awp_first fun K kk hK => ?_
      simp only [go_sem]
      refine hK _ _ fun nx => ?_; clear hK K; try clear kk
      refine awp_ret ?_; refine nmx ?_
      obtain hR := Option.some.inj hh
      subst hR
      exact ret_p2
    · intro i s h; exact h.elim
    · rintro s ⟨res_10, rfl, hb⟩
      try dsimp only at hh
      obtain hR := Option.some.inj hh
      subst hR
      refine nmx ?_
      exact hb
theorem diptychref4_Same_ok (a_1 : diptychref4_Spot) (b_2 : diptychref4_Spot) (R : Bool) (hh : diptychref4_Same a_1 b_2 = some R) : PC Tryd.prog 78 [.agg [.list 1 (a_1.Path.map (PV.int .i64)), .int .i64 a_1.Index, .int .i64 a_1.Offset], .agg [.list 1 (b_2.Path.map (PV.int .i64)), .int .i64 b_2.Index, .int .i64 b_2.Offset]] (.bool R) := by
  rw [diptychref4_Same] at hh
  refine start_diptychref4_Same rfl ?_
  refine awp_first fun K kk hK => ?_
  simp only [go_sem]
  refine hK _ _ fun nx => ?_; clear hK K; try clear kk
  obtain ⟨same_3, h1, hh⟩ := bind_ex hh
  by_cases h2 : (same_3) = true
  · rw [if_pos h2] at hh
    by_cases h3 : (a_1.Index == b_2.Index) = true
    · rw [if_pos h3] at hh
      refine awp_first fun K kk hK => ?_
      simp only [go_sem, h2, h2, h3, h3]
      (repeat refine sd ?_)
      refine step_call2 (diptychref4_same_ok _ _ _ h1) (by (try simp only [go_sem, h2, h2, h3, h3]) <;> exact wkl) (by rfl) (by rfl) ?_
      simp only [go_sem, h2, h2, h3, h3]
      (repeat refine sd ?_)
      refine hK _ _ fun nx => ?_; clear hK K; try clear kk
      refine awp_ret ?_; refine nmx ?_
      obtain hR := Option.some.inj hh
      subst hR
      exact ret_p2
    · rw [if_neg h3] at hh
      replace h3 := Bool.eq_false_iff.mpr h3
      refine awp_first fun K kk hK => ?_
      simp only [go_sem, h2, h2, h3, h3]
      (repeat refine sd ?_)
      refine step_call2 (diptychref4_same_ok _ _ _ h1) (by (try simp only [go_sem, h2, h2, h3, h3]) <;> exact wkl) (by rfl) (by rfl) ?_
      simp only [go_sem, h2, h2, h3, h3]
      (repeat refine sd ?_)
      refine hK _ _ fun nx => ?_; clear hK K; try clear kk
      refine awp_ret ?_; refine nmx ?_
      obtain hR := Option.some.inj hh
      subst hR
      exact ret_p2
  · rw [if_neg h2] at hh
    replace h2 := Bool.eq_false_iff.mpr h2
    refine awp_first fun K kk hK => ?_
    simp only [go_sem, h2, h2]
    (repeat refine sd ?_)
    refine step_call2 (diptychref4_same_ok _ _ _ h1) (by (try simp only [go_sem, h2, h2]) <;> exact wkl) (by rfl) (by rfl) ?_
    simp only [go_sem, h2, h2]
    (repeat refine sd ?_)
    refine hK _ _ fun nx => ?_; clear hK K; try clear kk
    refine awp_ret ?_; refine nmx ?_
    obtain hR := Option.some.inj hh
    subst hR
    exact ret_p2
theorem diptychlaw5_flat_ok (n_1 : api_Node) (from_2 : Int) (to_3 : Int) (R : (Int × Int)) (hh : diptychlaw5_flat n_1 from_2 to_3 = some R) : PC Tryd.prog 41 [.agg [.str n_1.Kind, .str n_1.Text, .list 1 (n_1.Marks.map PV.str), .list 2 (n_1.Attrs.map api_Attr.pv), .list 5 (n_1.Kids.map api_Node.pv)], .int .i64 from_2, .int .i64 to_3] (.tup [.int .i64 R.1, .int .i64 R.2]) := by
  rw [diptychlaw5_flat] at hh
  refine start_diptychlaw5_flat rfl ?_
  refine awp_first fun K kk hK => ?_
  simp only [go_sem]
  refine hK _ _ fun nx => ?_; clear hK K; try clear kk
  obtain ⟨total_4, h1, hh⟩ := bind_ex hh
  obtain ⟨pick_5, h2, hh⟩ := bind_ex hh
  refine awp_first fun K kk hK => ?_
  simp only [go_sem]
  refine step_call2 (node_Total_ok _ _ h1) (by (try simp only [go_sem]) <;> exact wkl) (by rfl) (by rfl) ?_
  simp only [go_sem]
  refine step_call2 (diptychlaw5_pick_ok _ _ _ h2) (by (try simp only [go_sem]) <;> exact wkl) (by rfl) (by rfl) ?_
  simp only [go_sem]
  refine hK _ _ fun nx => ?_; clear hK K; try clear kk
  obtain ⟨total_6, h3, hh⟩ := bind_ex hh
  obtain ⟨pick_7, h4, hh⟩ := bind_ex hh
  refine awp_first fun K kk hK => ?_
  simp only [go_sem]
  refine step_call2 (node_Total_ok _ _ h3) (by (try simp only [go_sem]) <;> exact wkl) (by rfl) (by rfl) ?_
  simp only [go_sem]
  refine step_call2 (diptychlaw5_pick_ok _ _ _ h4) (by (try simp only [go_sem]) <;> exact wkl) (by rfl) (by rfl) ?_
  simp only [go_sem]
  refine hK _ _ fun nx => ?_; clear hK K; try clear kk
  obtain ⟨⟨r_8, r_9⟩, h5, hh⟩ := bind_ex hh
  dsimp only at hh
  refine awp_first fun K kk hK => ?_
  simp only [go_sem]
  refine step_call2 (place_Resolve_ok _ _ _ h5) (by (try simp only [go_sem]) <;> exact wkl) (by rfl) (by rfl) ?_
  simp only [go_sem]
  refine hK _ _ fun nx => ?_; clear hK K; try clear kk
  refine awp_seq ?_
  obtain ⟨e0, f0, hh⟩ := bind_ex hh
  refine awp_frag (fun s => ∃ b_17, b_17 = e0 ∧ ∃ (nx : Nat) (g3 : Nat) (g10 : Nat), s = ⟨[(3, .box 3 g3 0), (8, .int .i64 pick_5), (9, .int .i64 b_17), (10, .box 10 g10 0)], [(3, g3, .var 28 [.str n_1.Kind, .str n_1.Text, .list 1 (n_1.Marks.map PV.str), .list 2 (n_1.Attrs.map api_Attr.pv), .list 5 (n_1.Kids.map api_Node.pv)]), (10, g10, .var 70 [.list 1 (r_8.Path.map (PV.int .i64)), .int .i64 r_8.Index, .int .i64 r_8.Offset])], nx⟩)
    (fun i s => False)
    (fun s => False) ?_ ?_ ?_ ?_
  · refine awp_block ?_
    refine awp_loopJ fun I hI => ?_
    obtain ⟨k, f0⟩ := lim_some f0
    have key : ∀ (k : Nat) (b_13 : Int), diptychlaw5_flat_l0 n_1 pick_5 r_8 k b_13 = some e0 → ∀ (nx : Nat) (g3 : Nat) (g10 : Nat), I ⟨[(3, .box 3 g3 0), (8, .int .i64 pick_5), (9, .int .i64 b_13), (10, .box 10 g10 0)], [(3, g3, .var 28 [.str n_1.Kind, .str n_1.Text, .list 1 (n_1.Marks.map PV.str), .list 2 (n_1.Attrs.map api_Attr.pv), .list 5 (n_1.Kids.map api_Node.pv)]), (10, g10, .var 70 [.list 1 (r_8.Path.map (PV.int .i64)), .int .i64 r_8.Index, .int .i64 r_8.Offset])], nx⟩ := by
      intro k
      induction k with
      | zero => intro b_13 hh; rw [diptychlaw5_flat_l0] at hh; cases hh
      | succ k ih =>
        intro b_13 hh nx g3 g10
        rw [diptychlaw5_flat_l0] at hh
        refine hI _ ?_
        refine awp_seq ?_
        refine awp_first fun K kk hK => ?_
        simp only [go_sem]
        refine hK _ _ fun nx => ?_; clear hK K; try clear kk
        by_cases h11 : (b_13 != pick_5) = true
        · rw [if_pos h11] at hh
          refine awp_true (by first | exact congrArg PV.bool h11 | rfl) ?_
          refine awp_skip ?_; refine nmx ?_
          refine awp_block ?_
          obtain ⟨⟨r_14, r_15⟩, h12, hh⟩ := bind_ex hh
          dsimp only at hh
          refine awp_first fun K kk hK => ?_
          simp only [go_sem]
          refine step_call2 (place_Resolve_ok _ _ _ h12) (by (try simp only [go_sem]) <;> exact wkl) (by rfl) (by rfl) ?_
          simp only [go_sem]
          refine hK _ _ fun nx => ?_; clear hK K; try clear kk
          refine awp_seq ?_
          obtain ⟨same_16, h13, hh⟩ := bind_ex hh
          refine awp_first fun K kk hK => ?_
          simp only [go_sem]
          refine step_call2 (diptychref4_Same_ok _ _ _ h13) (by (try simp only [go_sem]) <;> exact wkl) (by rfl) (by rfl) ?_
          simp only [go_sem]
          refine hK _ _ fun nx => ?_; clear hK K; try clear kk
          by_cases h14 : (same_16) = true
          · rw [if_pos h14] at hh
            refine awp_true (by first | exact congrArg PV.bool h14 | rfl) ?_
            refine awp_exit ?_; refine nmx ?_
            refine fragN ?_
            refine cut_to (less_cut _ [3, 8, 9, 10] [3, 10]) ?_
            refine ⟨_, (Option.some.inj hh), ?_⟩
            first | exact ⟨_, _, _, rfl⟩ | (simp only [diptychlaw5_Cell.pv_eq, api_Attr.pv_eq, api_Node.pv_eq, place_Spot.pv_eq, piece_flat.pv_eq, diptychref4_Spot.pv_eq, token_Token.pv_eq, pvL, List.map_cons, List.map_nil, List.map_append, rune1]; exact ⟨_, _, _, rfl⟩) | (simp only [diptychlaw5_Cell.pv_eq, api_Attr.pv_eq, api_Node.pv_eq, place_Spot.pv_eq, piece_flat.pv_eq, diptychref4_Spot.pv_eq, token_Token.pv_eq, pvL, List.map_cons, List.map_nil, List.map_append, rune1, h11, h14]; exact ⟨_, _, _, rfl⟩)
          · rw [if_neg h14] at hh
            replace h14 := Bool.eq_false_iff.mpr h14
            refine awp_false (by first | exact congrArg PV.bool h14 | rfl) ?_
            refine awp_skip ?_; refine nmx ?_
            refine awp_first fun K kk hK => ?_
            simp only [go_sem]
            refine hK _ _ fun nx => ?_; clear hK K; try clear kk
            by_cases h15 : (decide (b_13 < pick_5)) = true
            · rw [if_pos h15] at hh
              refine awp_true (by first | exact congrArg PV.bool h15 | rfl) ?_
              refine awp_region fun K kk hK => ?_
              simp only [go_sem]
              refine hK _ _ fun nx => ?_; clear hK K; try clear kk
              refine nmx ?_
              have ih' := ih _ hh nx
              refine cut_id ?_
              first | exact ih' _ _ | (simp only [diptychlaw5_Cell.pv_eq, api_Attr.pv_eq, api_Node.pv_eq, place_Spot.pv_eq, piece_flat.pv_eq, diptychref4_Spot.pv_eq, token_Token.pv_eq, pvL, List.map_cons, List.map_nil, List.map_append, rune1] at ih' ⊢; exact ih' _ _) | (simp only [diptychlaw5_Cell.pv_eq, api_Attr.pv_eq, api_Node.pv_eq, place_Spot.pv_eq, piece_flat.pv_eq, diptychref4_Spot.pv_eq, token_Token.pv_eq, pvL, List.map_cons, List.map_nil, List.map_append, rune1, h11, h14, h15] at ih' ⊢; exact ih' _ _)
            · rw [if_neg h15] at hh
              replace h15 := Bool.eq_false_iff.mpr h15
              refine awp_false (by first | exact congrArg PV.bool h15 | rfl) ?_
              refine awp_region fun K kk hK => ?_
              simp only [go_sem]
              refine hK _ _ fun nx => ?_; clear hK K; try clear kk
              refine nmx ?_
              have ih' := ih _ hh nx
              refine cut_id ?_
              first | exact ih' _ _ | (simp only [diptychlaw5_Cell.pv_eq, api_Attr.pv_eq, api_Node.pv_eq, place_Spot.pv_eq, piece_flat.pv_eq, diptychref4_Spot.pv_eq, token_Token.pv_eq, pvL, List.map_cons, List.map_nil, List.map_append, rune1] at ih' ⊢; exact ih' _ _) | (simp only [diptychlaw5_Cell.pv_eq, api_Attr.pv_eq, api_Node.pv_eq, place_Spot.pv_eq, piece_flat.pv_eq, diptychref4_Spot.pv_eq, token_Token.pv_eq, pvL, List.map_cons, List.map_nil, List.map_append, rune1, h11, h14, h15] at ih' ⊢; exact ih' _ _)
        · rw [if_neg h11] at hh
          replace h11 := Bool.eq_false_iff.mpr h11
          refine awp_false (by first | exact congrArg PV.bool h11 | rfl) ?_
          refine awp_exit ?_; refine nmx ?_
          refine fragN ?_
          refine cut_to (less_cut _ [3, 8, 9, 10] [3, 10]) ?_
          refine ⟨_, (Option.some.inj hh), ?_⟩
          first | exact ⟨_, _, _, rfl⟩ | (simp only [diptychlaw5_Cell.pv_eq, api_Attr.pv_eq, api_Node.pv_eq, place_Spot.pv_eq, piece_flat.pv_eq, diptychref4_Spot.pv_eq, token_Token.pv_eq, pvL, List.map_cons, List.map_nil, List.map_append, rune1]; exact ⟨_, _, _, rfl⟩) | (simp only [diptychlaw5_Cell.pv_eq, api_Attr.pv_eq, api_Node.pv_eq, place_Spot.pv_eq, piece_flat.pv_eq, diptychref4_Spot.pv_eq, token_Token.pv_eq, pvL, List.map_cons, List.map_nil, List.map_append, rune1, h11]; exact ⟨_, _, _, rfl⟩)
    exact key _ _ f0 _ _ _
  · rintro s ⟨b_17, rfl, nx, g3, g10, rfl⟩
    try dsimp only at hh
    refine awp_first fun K kk hK => ?_
    simp only [go_sem]
    refine hK _ _ fun nx => ?_; clear hK K; try clear kk
    refine awp_ret ?_; refine nmx ?_
    obtain hR := Option.some.inj hh
    subst hR
    exact ret_p2
  · intro i s h; exact h.elim
  · intro s h; exact h.elim

end Go.Proofs.YtblielhogcnnkaaDoor
