/- What the functions answer, the program answers (3). -/
import Derived.Test.YtblielhogcnnkaaDoorAgC
import Derived.Test.YtblielhogcnnkaaDoorAgF
import Derived.Test.YtblielhogcnnkaaDoorAgK0
import Derived.Test.YtblielhogcnnkaaDoorAgK1
import Derived.Test.YtblielhogcnnkaaDoorAgK2
import Derived.Test.YtblielhogcnnkaaDoorAgL
import Derived.Test.YtblielhogcnnkaaDoorAgSl
namespace Go.Proofs.YtblielhogcnnkaaDoor
set_option linter.unusedSimpArgs false
set_option linter.unusedVariables false
open Go
set_option maxRecDepth 100000

theorem place_Start_ok (n_1 : api_Node) (path_2 : (List Int)) (R : (Int × Int)) (hh : place_Start n_1 path_2 = some R) : PC Tryd.prog 95 [.agg [.str n_1.Kind, .str n_1.Text, .list 1 (n_1.Marks.map PV.str), .list 2 (n_1.Attrs.map api_Attr.pv), .list 5 (n_1.Kids.map api_Node.pv)], .list 1 (path_2.map (PV.int .i64))] (.tup [.int .i64 R.1, .int .i64 R.2]) := by
  rw [place_Start] at hh
  refine start_place_Start rfl ?_
  refine awp_first fun K kk hK => ?_
  simp only [go_sem]
  refine hK _ _ fun nx => ?_; clear hK K; try clear kk
  refine awp_seq ?_
  obtain ⟨⟨r_3, r_4⟩, h1, hh⟩ := bind_ex hh
  dsimp only at hh
  refine awp_first fun K kk hK => ?_
  simp only [go_sem]
  refine step_call2 (place_Inner_ok _ _ _ h1) (by (try simp only [go_sem]) <;> exact wkl) (by rfl) (by rfl) ?_
  simp only [go_sem]
  refine hK _ _ fun nx => ?_; clear hK K; try clear kk
  refine awp_first fun K kk hK => ?_
  simp only [go_sem]
  refine hK _ _ fun nx => ?_; clear hK K; try clear kk
  by_cases h2 : (r_4 != (0 : Int)) = true
  · rw [if_pos h2] at hh
    refine awp_true (by first | exact congrArg PV.bool h2 | rfl) ?_
    refine awp_first fun K kk hK => ?_
    simp only [go_sem]
    refine hK _ _ fun nx => ?_; clear hK K; try clear kk
    refine awp_ret ?_; refine nmx ?_
    obtain hR := Option.some.inj hh
    subst hR
    exact ret_p2
  · rw [if_neg h2] at hh
    replace h2 := Bool.eq_false_iff.mpr h2
    refine awp_false (by first | exact congrArg PV.bool h2 | rfl) ?_
    refine awp_skip ?_; refine nmx ?_
    refine awp_first fun K kk hK => ?_
    simp only [go_sem]
    refine hK _ _ fun nx => ?_; clear hK K; try clear kk
    refine awp_seq ?_
    refine awp_first fun K kk hK => ?_
    simp only [go_sem]
    refine hK _ _ fun nx => ?_; clear hK K; try clear kk
    obtain ⟨e0, f0, hh⟩ := bind_ex hh
    obtain ⟨hlen0, f0⟩ := chk_some f0
    refine awp_fragE (CutTo (fun s => ∃ at_20, at_20 = e0 ∧ ∃ (v_21 : Int) (v_22 : Bool) (n_23 : api_Node) (nx : Nat) (g2 : Nat), s = ⟨[(2, .box 2 g2 0), (8, .int .i64 at_20), (20, .list 1 (path_2.map (PV.int .i64))), (21, .int .i64 (path_2.length : Int)), (22, .int .i64 v_21), (23, .bool v_22)], [(2, g2, .var 28 [.str n_23.Kind, .str n_23.Text, .list 1 (n_23.Marks.map PV.str), .list 2 (n_23.Attrs.map api_Attr.pv), .list 5 (n_23.Kids.map api_Node.pv)])], nx⟩))
      (fun i s => False)
      (fun s => False) ?_ ?_ ?_ ?_
    · refine awp_block ?_
      refine awp_loopJ fun I hI => ?_
      have key : ∀ (suf pre : List Int) (v_11 : Int) (at_10 : Int) (n_9 : api_Node), path_2 = pre ++ suf → v_11 = (pre.length : Int) → place_Start_l0 suf v_11 at_10 n_9 = some e0 → ∀ (nx : Nat) (g2 : Nat), I ⟨[(2, .box 2 g2 0), (8, .int .i64 at_10), (20, .list 1 (path_2.map (PV.int .i64))), (21, .int .i64 (path_2.length : Int)), (22, .int .i64 v_11)], [(2, g2, .var 28 [.str n_9.Kind, .str n_9.Text, .list 1 (n_9.Marks.map PV.str), .list 2 (n_9.Attrs.map api_Attr.pv), .list 5 (n_9.Kids.map api_Node.pv)])], nx⟩ := by
        intro suf
        induction suf with
        | nil =>
          intro pre v_11 at_10 n_9 hsplit hidx hh nx g2
          rw [place_Start_l0] at hh
          refine hI _ ?_
          have h13 := walk_nil hsplit hidx
          refine awp_first fun K kk hK => ?_
          simp only [go_sem]
          refine hK _ _ fun nx => ?_; clear hK K; try clear kk
          refine awp_seq ?_
          refine awp_false (by first | exact congrArg PV.bool h13 | rfl) ?_
          refine awp_exit ?_; refine nmx ?_
          refine fragN ?_
          refine cut_id ?_
          refine ⟨_, (Option.some.inj hh), ?_⟩
          first | exact ⟨_, _, _, _, _, rfl⟩ | (simp only [diptychlaw5_Cell.pv_eq, api_Attr.pv_eq, api_Node.pv_eq, token_Token.pv_eq, piece_flat.pv_eq, place_Spot.pv_eq, diptychref4_Spot.pv_eq, pvL, List.map_cons, List.map_nil, List.map_append, rune1]; exact ⟨_, _, _, _, _, rfl⟩) | (simp only [diptychlaw5_Cell.pv_eq, api_Attr.pv_eq, api_Node.pv_eq, token_Token.pv_eq, piece_flat.pv_eq, place_Spot.pv_eq, diptychref4_Spot.pv_eq, pvL, List.map_cons, List.map_nil, List.map_append, rune1, h13, h2]; exact ⟨_, _, _, _, _, rfl⟩)
        | cons y_16 suf ih =>
          intro pre v_11 at_10 n_9 hsplit hidx hh nx g2
          rw [place_Start_l0] at hh
          refine hI _ ?_
          obtain ⟨hl0a, hl0b, hl0d, hl0w, h13⟩ := walk_cons (f := (PV.int .i64)) hsplit hidx hlen0
          refine awp_first fun K kk hK => ?_
          simp only [go_sem]
          refine hK _ _ fun nx => ?_; clear hK K; try clear kk
          refine awp_seq ?_
          refine awp_true (by first | exact congrArg PV.bool h13 | rfl) ?_
          refine awp_skip ?_; refine nmx ?_
          refine awp_seq ?_
          refine awp_block ?_
          refine awp_first fun K kk hK => ?_
          simp only [go_sem, hl0a, hl0b, hl0d, hl0w]
          refine hK _ _ fun nx => ?_; clear hK K; try clear kk
          obtain ⟨s_17, h14, hh⟩ := bind_ex hh
          obtain ⟨h14a, h14c⟩ := sl_some h14
          have h14g := sl_le h14a
          have h14d := sl_map0 (f := api_Node.pv) h14c
          try simp only [Int.toNat_natCast, Int.reduceToNat, List.map_cons, List.map_nil, diptychlaw5_Cell.pv_eq, api_Attr.pv_eq, api_Node.pv_eq, token_Token.pv_eq, piece_flat.pv_eq, place_Spot.pv_eq, diptychref4_Spot.pv_eq, pvL] at h14d
          obtain ⟨total_18, h15, hh⟩ := bind_ex hh
          refine awp_first fun K kk hK => ?_
          simp only [go_sem, h14a.1, h14a.2.1, h14a.2.2, h14d, h14g, hl0a, hl0b, hl0d, hl0w]
          (repeat refine sd ?_)
          refine step_call2 (node_Total_ok _ _ h15) (by (try simp only [go_sem, h14a.1, h14a.2.1, h14a.2.2, h14d, h14g, hl0a, hl0b, hl0d, hl0w]) <;> exact wkl) (by rfl) (by rfl) ?_
          simp only [go_sem, h14a.1, h14a.2.1, h14a.2.2, h14d, h14g, hl0a, hl0b, hl0d, hl0w]
          (repeat refine sd ?_)
          refine hK _ _ fun nx => ?_; clear hK K; try clear kk
          obtain ⟨x_19, h16, hh⟩ := bind_ex hh
          obtain ⟨h16a, h16b, h16c⟩ := rd_some h16
          have h16d := rd_get (f := api_Node.pv) h16c
          have h16f := rd_more (f := api_Node.pv) h16c
          try simp only [Int.toNat_natCast, Int.reduceToNat] at h16d h16f
          refine awp_region fun K kk hK => ?_
          simp only [go_sem, h16a, h16b, h16d, h16f.1, h16f.2, hl0a, hl0b, hl0d, hl0w]
          (repeat refine sd ?_)
          refine hK _ _ fun nx => ?_; clear hK K; try clear kk
          refine nmx ?_
          refine awp_region fun K kk hK => ?_
          simp only [go_sem, hl0a, hl0b, hl0d, hl0w]
          refine hK _ _ fun nx => ?_; clear hK K; try clear kk
          refine nmx ?_
          have ih' := ih (pre ++ [y_16]) (v_11 + 1) _ _ (by rw [hsplit]; simp) (by simp [hidx]) hh nx
          refine cut_id ?_
          first | exact ih' _ | (simp only [diptychlaw5_Cell.pv_eq, api_Attr.pv_eq, api_Node.pv_eq, token_Token.pv_eq, piece_flat.pv_eq, place_Spot.pv_eq, diptychref4_Spot.pv_eq, pvL, List.map_cons, List.map_nil, List.map_append, rune1] at ih' ⊢; exact ih' _) | (simp only [diptychlaw5_Cell.pv_eq, api_Attr.pv_eq, api_Node.pv_eq, token_Token.pv_eq, piece_flat.pv_eq, place_Spot.pv_eq, diptychref4_Spot.pv_eq, pvL, List.map_cons, List.map_nil, List.map_append, rune1, h13, h2] at ih' ⊢; exact ih' _)
      exact key path_2 [] _ _ _ rfl rfl f0 _ _
    · rintro s ⟨t, hless, at_20, rfl, v_21, v_22, n_23, nx, g2, rfl⟩
      try dsimp only at hh
      refine nmy ?_
      first | (refine cut_less hless ?_; try refine cut_awp ?_) | refine frag_less hless ?_ | refine body_less hless ?_
      refine awp_first fun K kk hK => ?_
      simp only [go_sem]
      refine hK _ _ fun nx => ?_; clear hK K; try clear kk
      refine awp_ret ?_; refine nmx ?_
      obtain hR := Option.some.inj hh
      subst hR
      exact ret_p2
    · intro i s h; exact h.elim
    · intro s h; exact h.elim
theorem piece_where_ok (n_1 : api_Node) (from_2 : Int) (to_3 : Int) (R : (piece_flat × Int)) (hh : piece_where n_1 from_2 to_3 = some R) : PC Tryd.prog 74 [.agg [.str n_1.Kind, .str n_1.Text, .list 1 (n_1.Marks.map PV.str), .list 2 (n_1.Attrs.map api_Attr.pv), .list 5 (n_1.Kids.map api_Node.pv)], .int .i64 from_2, .int .i64 to_3] (.tup [.agg [.list 1 (R.1.path.map (PV.int .i64)), .str R.1.in_.Kind, .str R.1.in_.Text, .list 1 (R.1.in_.Marks.map PV.str), .list 2 (R.1.in_.Attrs.map api_Attr.pv), .list 5 (R.1.in_.Kids.map api_Node.pv), .int .i64 R.1.from_, .int .i64 R.1.to_], .int .i64 R.2]) := by
  rw [piece_where] at hh
  refine start_piece_where rfl ?_
  refine awp_region fun K kk hK => ?_
  simp only [go_sem]
  refine hK _ _ fun nx => ?_; clear hK K; try clear kk
  refine nmx ?_
  refine mid_go 7 6 _ _ _ _ _ _ [1, 2, 3] [3] ⟨rfl, rfl, rfl, rfl, by decide, by decide, by decide, rfl, rfl, rfl, rfl⟩ rfl ?_
  refine awp_eq (t := ⟨[(7, .box 1000 0 0), (6, .box 1001 0 0), (1, .int .i64 from_2), (2, .int .i64 to_3), (3, .box 3 _ 0)], [(1000, 0, .var 37 [.int .i64 (0 : Int)]), (1001, 0, .var 117 [.list 1 ([].map (PV.int .i64)), .str ([] : Str), .str ([] : Str), .list 1 ([].map PV.str), .list 2 ([].map api_Attr.pv), .list 5 ([].map api_Node.pv), .int .i64 (0 : Int), .int .i64 (0 : Int)]), (3, _, .var 28 [.str n_1.Kind, .str n_1.Text, .list 1 (n_1.Marks.map PV.str), .list 2 (n_1.Attrs.map api_Attr.pv), .list 5 (n_1.Kids.map api_Node.pv)])], nx⟩) ?_ (by rfl)
  refine awp_seq ?_
  by_cases h1 : (n_1.Kind == ([116, 101, 120, 116] : Str)) = true
  · rw [if_pos h1] at hh
    refine awp_first fun K kk hK => ?_
    simp only [go_sem, h1, h1]
    (repeat refine sd ?_)
    refine hK _ _ fun nx => ?_; clear hK K; try clear kk
    refine awp_true rfl ?_
    refine awp_first fun K kk hK => ?_
    simp only [go_sem]
    refine hK _ _ fun nx => ?_; clear hK K; try clear kk
    refine awp_ret ?_; refine nmx ?_
    obtain ⟨⟨v_4, flat_5⟩, h2, hh⟩ := bind_ex hh
    dsimp only at hh
    obtain hR := Option.some.inj hh
    subst hR
    refine ret_defer (piece_where_1_x_ok _ _ _ h2) (by (try simp only [go_sem, h1]) <;> exact wkb) (by rfl) ?_ (by rfl)
    simp only [St.dback, dKs, go_sem, h1, rvsRes, rvRes, cellRes, tupOf, pur2, List.map_cons, List.map_append, List.head?_cons]
    all_goals exact wkw
  · rw [if_neg h1] at hh
    replace h1 := Bool.eq_false_iff.mpr h1
    obtain ⟨right_6, h3, hh⟩ := bind_ex hh
    refine awp_first fun K kk hK => ?_
    simp only [go_sem, h1, h1]
    (repeat refine sd ?_)
    refine step_call2 (node_Right_ok _ _ h3) (by (try simp only [go_sem, h1, h1]) <;> exact wkl) (by rfl) (by rfl) ?_
    simp only [go_sem, h1, h1]
    (repeat refine sd ?_)
    refine hK _ _ fun nx => ?_; clear hK K; try clear kk
    by_cases h4 : (!right_6) = true
    · rw [if_pos h4] at hh
      refine awp_true (by first | exact congrArg PV.bool h4 | rfl) ?_
      refine awp_first fun K kk hK => ?_
      simp only [go_sem]
      refine hK _ _ fun nx => ?_; clear hK K; try clear kk
      refine awp_ret ?_; refine nmx ?_
      obtain ⟨⟨v_7, flat_8⟩, h5, hh⟩ := bind_ex hh
      dsimp only at hh
      obtain hR := Option.some.inj hh
      subst hR
      refine ret_defer (piece_where_1_x_ok _ _ _ h5) (by (try simp only [go_sem, h1, h4]) <;> exact wkb) (by rfl) ?_ (by rfl)
      simp only [St.dback, dKs, go_sem, h1, h4, rvsRes, rvRes, cellRes, tupOf, pur2, List.map_cons, List.map_append, List.head?_cons]
      all_goals exact wkw
    · rw [if_neg h4] at hh
      replace h4 := Bool.eq_false_iff.mpr h4
      refine awp_false (by first | exact congrArg PV.bool h4 | rfl) ?_
      refine awp_skip ?_; refine nmx ?_
      obtain ⟨⟨r_9, r_10⟩, h6, hh⟩ := bind_ex hh
      dsimp only at hh
      refine awp_first fun K kk hK => ?_
      simp only [go_sem]
      refine step_call2 (place_Resolve_ok _ _ _ h6) (by (try simp only [go_sem]) <;> exact wkl) (by rfl) (by rfl) ?_
      simp only [go_sem]
      refine hK _ _ fun nx => ?_; clear hK K; try clear kk
      refine awp_seq ?_
      refine awp_first fun K kk hK => ?_
      simp only [go_sem]
      refine hK _ _ fun nx => ?_; clear hK K; try clear kk
      by_cases h7 : (r_10 != (0 : Int)) = true
      · rw [if_pos h7] at hh
        refine awp_true (by first | exact congrArg PV.bool h7 | rfl) ?_
        refine awp_first fun K kk hK => ?_
        simp only [go_sem]
        refine hK _ _ fun nx => ?_; clear hK K; try clear kk
        refine awp_ret ?_; refine nmx ?_
        obtain ⟨⟨v_11, flat_12⟩, h8, hh⟩ := bind_ex hh
        dsimp only at hh
        obtain hR := Option.some.inj hh
        subst hR
        refine ret_defer (piece_where_1_x_ok _ _ _ h8) (by (try simp only [go_sem, h1, h4, h7]) <;> exact wkb) (by rfl) ?_ (by rfl)
        simp only [St.dback, dKs, go_sem, h1, h4, h7, rvsRes, rvRes, cellRes, tupOf, pur2, List.map_cons, List.map_append, List.head?_cons]
        all_goals exact wkw
      · rw [if_neg h7] at hh
        replace h7 := Bool.eq_false_iff.mpr h7
        refine awp_false (by first | exact congrArg PV.bool h7 | rfl) ?_
        refine awp_skip ?_; refine nmx ?_
        obtain ⟨⟨r_13, r_14⟩, h9, hh⟩ := bind_ex hh
        dsimp only at hh
        refine awp_first fun K kk hK => ?_
        simp only [go_sem]
        refine step_call2 (place_Resolve_ok _ _ _ h9) (by (try simp only [go_sem]) <;> exact wkl) (by rfl) (by rfl) ?_
        simp only [go_sem]
        refine hK _ _ fun nx => ?_; clear hK K; try clear kk
        refine awp_seq ?_
        refine awp_block ?_
        refine awp_first fun K kk hK => ?_
        simp only [go_sem]
        refine hK _ _ fun nx => ?_; clear hK K; try clear kk
        by_cases h10 : (r_14 != (0 : Int)) = true
        · rw [if_pos h10] at hh
          refine awp_true (by first | exact congrArg PV.bool h10 | rfl) ?_
          refine awp_first fun K kk hK => ?_
          simp only [go_sem]
          refine hK _ _ fun nx => ?_; clear hK K; try clear kk
          refine awp_ret ?_; refine nmx ?_
          obtain ⟨⟨v_15, flat_16⟩, h11, hh⟩ := bind_ex hh
          dsimp only at hh
          obtain hR := Option.some.inj hh
          subst hR
          refine ret_defer (piece_where_1_x_ok _ _ _ h11) (by (try simp only [go_sem, h1, h10, h4, h7]) <;> exact wkb) (by rfl) ?_ (by rfl)
          simp only [St.dback, dKs, go_sem, h1, h10, h4, h7, rvsRes, rvRes, cellRes, tupOf, pur2, List.map_cons, List.map_append, List.head?_cons]
          all_goals exact wkw
        · rw [if_neg h10] at hh
          replace h10 := Bool.eq_false_iff.mpr h10
          refine awp_false (by first | exact congrArg PV.bool h10 | rfl) ?_
          refine awp_first fun K kk hK => ?_
          simp only [go_sem]
          refine hK _ _ fun nx => ?_; clear hK K; try clear kk
          by_cases h12 : (decide (to_3 < from_2)) = true
          · rw [if_pos h12] at hh
            refine awp_true (by first | exact congrArg PV.bool h12 | rfl) ?_
            refine awp_first fun K kk hK => ?_
            simp only [go_sem]
            refine hK _ _ fun nx => ?_; clear hK K; try clear kk
            refine awp_ret ?_; refine nmx ?_
            obtain ⟨⟨v_17, flat_18⟩, h13, hh⟩ := bind_ex hh
            dsimp only at hh
            obtain hR := Option.some.inj hh
            subst hR
            refine ret_defer (piece_where_1_x_ok _ _ _ h13) (by (try simp only [go_sem, h1, h10, h12, h4, h7]) <;> exact wkb) (by rfl) ?_ (by rfl)
            simp only [St.dback, dKs, go_sem, h1, h10, h12, h4, h7, rvsRes, rvRes, cellRes, tupOf, pur2, List.map_cons, List.map_append, List.head?_cons]
            all_goals exact wkw
          · rw [if_neg h12] at hh
            replace h12 := Bool.eq_false_iff.mpr h12
            refine awp_false (by first | exact congrArg PV.bool h12 | rfl) ?_
            obtain ⟨int_19, h14, hh⟩ := bind_ex hh
            refine awp_first fun K kk hK => ?_
            simp only [go_sem]
            refine step_call2 (slices_Equal_int_ok _ _ _ h14) (by (try simp only [go_sem]) <;> exact wkl) (by rfl) (by rfl) ?_
            simp only [go_sem]
            refine hK _ _ fun nx => ?_; clear hK K; try clear kk
            by_cases h15 : (!int_19) = true
            · rw [if_pos h15] at hh
              refine awp_true (by first | exact congrArg PV.bool h15 | rfl) ?_
              refine awp_first fun K kk hK => ?_
              simp only [go_sem]
              refine hK _ _ fun nx => ?_; clear hK K; try clear kk
              refine awp_ret ?_; refine nmx ?_
              obtain ⟨⟨v_20, flat_21⟩, h16, hh⟩ := bind_ex hh
              dsimp only at hh
              obtain hR := Option.some.inj hh
              subst hR
              refine ret_defer (piece_where_1_x_ok _ _ _ h16) (by (try simp only [go_sem, h1, h10, h12, h15, h4, h7]) <;> exact wkb) (by rfl) ?_ (by rfl)
              simp only [St.dback, dKs, go_sem, h1, h10, h12, h15, h4, h7, rvsRes, rvRes, cellRes, tupOf, pur2, List.map_cons, List.map_append, List.head?_cons]
              all_goals exact wkw
            · rw [if_neg h15] at hh
              replace h15 := Bool.eq_false_iff.mpr h15
              refine awp_false (by first | exact congrArg PV.bool h15 | rfl) ?_
              refine awp_skip ?_; refine nmx ?_
              obtain ⟨⟨r_22, r_23⟩, h17, hh⟩ := bind_ex hh
              dsimp only at hh
              refine awp_first fun K kk hK => ?_
              simp only [go_sem]
              refine step_call2 (place_Start_ok _ _ _ h17) (by (try simp only [go_sem]) <;> exact wkl) (by rfl) (by rfl) ?_
              simp only [go_sem]
              refine hK _ _ fun nx => ?_; clear hK K; try clear kk
              obtain ⟨⟨r_24, r_25⟩, h18, hh⟩ := bind_ex hh
              dsimp only at hh
              refine awp_first fun K kk hK => ?_
              simp only [go_sem]
              refine step_call2 (place_Inner_ok _ _ _ h18) (by (try simp only [go_sem]) <;> exact wkl) (by rfl) (by rfl) ?_
              simp only [go_sem]
              refine hK _ _ fun nx => ?_; clear hK K; try clear kk
              refine awp_first fun K kk hK => ?_
              simp only [go_sem]
              refine hK _ _ fun nx => ?_; clear hK K; try clear kk
              refine awp_ret ?_; refine nmx ?_
              obtain ⟨⟨v_26, flat_27⟩, h19, hh⟩ := bind_ex hh
              dsimp only at hh
              obtain hR := Option.some.inj hh
              subst hR
              refine ret_defer (piece_where_1_x_ok _ _ _ h19) (by (try simp only [go_sem, h1, h10, h12, h15, h4, h7]) <;> exact wkb) (by rfl) ?_ (by rfl)
              simp only [St.dback, dKs, go_sem, h1, h10, h12, h15, h4, h7, rvsRes, rvRes, cellRes, tupOf, pur2, List.map_cons, List.map_append, List.head?_cons]
              all_goals exact wkw
theorem slices_Grow_api_Node_x_ok (n : Int) (R : (List api_Node)) (hh : slices_Grow_api_Node_x n = some R) : PC Tryd.prog 98 [.nilS, .int .i64 n] (.own 5 (R.map api_Node.pv)) := by
  rw [slices_Grow_api_Node_x] at hh
  obtain ⟨⟨h1, h2⟩, hR⟩ := chk_some hh
  cases hR
  exact lib_grow Tryd.lays8_4 ⟨by kernel_rfl, by kernel_rfl⟩ ⟨_, Tryd.func98, by kernel_rfl, by kernel_rfl⟩ ty28 rfl n h1 (by simpa using h2)
theorem slices_Concat_api_Node_ok (slices_1 : (List (List api_Node))) (R : (List api_Node)) (hh : slices_Concat_api_Node slices_1 = some R) : PC Tryd.prog 76 [.list 1 (slices_1.map (pvL 5 api_Node.pv))] (.own 5 (R.map api_Node.pv)) := by
  rw [slices_Concat_api_Node] at hh
  refine start_slices_Concat_api_Node rfl ?_
  refine awp_first fun K kk hK => ?_
  simp only [go_sem]
  refine hK _ _ fun nx => ?_; clear hK K; try clear kk
  refine awp_first fun K kk hK => ?_
  simp only [go_sem]
  refine hK _ _ fun nx => ?_; clear hK K; try clear kk
  refine awp_seq ?_
  refine awp_first fun K kk hK => ?_
  simp only [go_sem]
  refine hK _ _ fun nx => ?_; clear hK K; try clear kk
  obtain ⟨e0, f0, hh⟩ := bind_ex hh
  obtain ⟨hlen0, f0⟩ := chk_some f0
  refine awp_fragE (CutTo (fun s => ∃ size_7, size_7 = e0 ∧ ∃ (v_8 : Int) (v_9 : Bool) (nx : Nat), s = ⟨[(0, .list 1 (slices_1.map (pvL 5 api_Node.pv))), (3, .int .i64 size_7), (9, .list 1 (slices_1.map (pvL 5 api_Node.pv))), (10, .int .i64 (slices_1.length : Int)), (11, .int .i64 v_8), (12, .bool v_9)], [], nx⟩))
    (fun i s => False)
    (fun s => False) ?_ ?_ ?_ ?_
  · refine awp_block ?_
    refine awp_loopJ fun I hI => ?_
    have key : ∀ (suf pre : List (List api_Node)) (v_4 : Int) (size_3 : Int), slices_1 = pre ++ suf → v_4 = (pre.length : Int) → slices_Concat_api_Node_l0 suf v_4 size_3 = some e0 → ∀ (nx : Nat), I ⟨[(0, .list 1 (slices_1.map (pvL 5 api_Node.pv))), (3, .int .i64 size_3), (9, .list 1 (slices_1.map (pvL 5 api_Node.pv))), (10, .int .i64 (slices_1.length : Int)), (11, .int .i64 v_4)], [], nx⟩ := by
      intro suf
      induction suf with
      | nil =>
        intro pre v_4 size_3 hsplit hidx hh nx
        rw [slices_Concat_api_Node_l0] at hh
        refine hI _ ?_
        have h7 := walk_nil hsplit hidx
        refine awp_first fun K kk hK => ?_
        simp only [go_sem]
        refine hK _ _ fun nx => ?_; clear hK K; try clear kk
        refine awp_seq ?_
        refine awp_false (by first | exact congrArg PV.bool h7 | rfl) ?_
        refine awp_exit ?_; refine nmx ?_
        refine fragN ?_
        refine cut_id ?_
        refine ⟨_, (Option.some.inj hh), ?_⟩
        first | exact ⟨_, _, _, rfl⟩ | (simp only [diptychlaw5_Cell.pv_eq, api_Attr.pv_eq, api_Node.pv_eq, token_Token.pv_eq, piece_flat.pv_eq, place_Spot.pv_eq, diptychref4_Spot.pv_eq, pvL, List.map_cons, List.map_nil, List.map_append, rune1]; exact ⟨_, _, _, rfl⟩) | (simp only [diptychlaw5_Cell.pv_eq, api_Attr.pv_eq, api_Node.pv_eq, token_Token.pv_eq, piece_flat.pv_eq, place_Spot.pv_eq, diptychref4_Spot.pv_eq, pvL, List.map_cons, List.map_nil, List.map_append, rune1, h7]; exact ⟨_, _, _, rfl⟩)
      | cons y_6 suf ih =>
        intro pre v_4 size_3 hsplit hidx hh nx
        rw [slices_Concat_api_Node_l0] at hh
        refine hI _ ?_
        obtain ⟨hl0a, hl0b, hl0d, hl0w, h7⟩ := walk_cons (f := (pvL 5 api_Node.pv)) hsplit hidx hlen0
        refine awp_first fun K kk hK => ?_
        simp only [go_sem]
        refine hK _ _ fun nx => ?_; clear hK K; try clear kk
        refine awp_seq ?_
        refine awp_true (by first | exact congrArg PV.bool h7 | rfl) ?_
        refine awp_skip ?_; refine nmx ?_
        refine awp_seq ?_
        refine awp_block ?_
        refine awp_first fun K kk hK => ?_
        simp only [go_sem, hl0a, hl0b, hl0d, hl0w]
        refine hK _ _ fun nx => ?_; clear hK K; try clear kk
        refine awp_first fun K kk hK => ?_
        simp only [go_sem, hl0a, hl0b, hl0d, hl0w]
        refine hK _ _ fun nx => ?_; clear hK K; try clear kk
        refine awp_first fun K kk hK => ?_
        simp only [go_sem, hl0a, hl0b, hl0d, hl0w]
        refine hK _ _ fun nx => ?_; clear hK K; try clear kk
        by_cases h8 : (decide ((w64 (size_3 + (y_6.length : Int))) < (0 : Int))) = true
        · rw [if_pos h8] at hh
          refine awp_true (by first | exact congrArg PV.bool h8 | rfl) ?_
          cases hh
        · rw [if_neg h8] at hh
          replace h8 := Bool.eq_false_iff.mpr h8
          refine awp_false (by first | exact congrArg PV.bool h8 | rfl) ?_
          refine awp_skip ?_; refine nmx ?_
          refine awp_region fun K kk hK => ?_
          simp only [go_sem, hl0a, hl0b, hl0d, hl0w]
          refine hK _ _ fun nx => ?_; clear hK K; try clear kk
          refine nmx ?_
          have ih' := ih (pre ++ [y_6]) (v_4 + 1) _ (by rw [hsplit]; simp) (by simp [hidx]) hh nx
          refine cut_id ?_
          first | exact ih' | (simp only [diptychlaw5_Cell.pv_eq, api_Attr.pv_eq, api_Node.pv_eq, token_Token.pv_eq, piece_flat.pv_eq, place_Spot.pv_eq, diptychref4_Spot.pv_eq, pvL, List.map_cons, List.map_nil, List.map_append, rune1] at ih' ⊢; exact ih') | (simp only [diptychlaw5_Cell.pv_eq, api_Attr.pv_eq, api_Node.pv_eq, token_Token.pv_eq, piece_flat.pv_eq, place_Spot.pv_eq, diptychref4_Spot.pv_eq, pvL, List.map_cons, List.map_nil, List.map_append, rune1, h7, h8] at ih' ⊢; exact ih')
    exact key slices_1 [] _ _ rfl rfl f0 _
  · rintro s ⟨t, hless, size_7, rfl, v_8, v_9, nx, rfl⟩
    try dsimp only at hh
    refine nmy ?_
    first | (refine cut_less hless ?_; try refine cut_awp ?_) | refine frag_less hless ?_ | refine body_less hless ?_
    obtain ⟨node_10, h9, hh⟩ := bind_ex hh
    refine awp_first fun K kk hK => ?_
    simp only [go_sem]
    refine step_call2 (slices_Grow_api_Node_x_ok _ _ h9) (by (try simp only [go_sem]) <;> exact wkl) (by rfl) (by rfl) ?_
    simp only [go_sem]
    refine hK _ _ fun nx => ?_; clear hK K; try clear kk
    refine awp_seq ?_
    refine awp_first fun K kk hK => ?_
    simp only [go_sem]
    refine hK _ _ fun nx => ?_; clear hK K; try clear kk
    obtain ⟨e1, f1, hh⟩ := bind_ex hh
    obtain ⟨hlen1, f1⟩ := chk_some f1
    refine awp_fragE (CutTo (fun s => ∃ newslice_21, newslice_21 = e1 ∧ ∃ (v_19 : Int) (v_20 : Bool) (nx : Nat) (g6 : Nat), s = ⟨[(6, .row 6 g6 newslice_21.length), (25, .list 1 (slices_1.map (pvL 5 api_Node.pv))), (26, .int .i64 (slices_1.length : Int)), (27, .int .i64 v_19), (28, .bool v_20)], [(6, g6, .row false 5 (newslice_21.map api_Node.pv))], nx⟩))
      (fun i s => False)
      (fun s => False) ?_ ?_ ?_ ?_
    · refine awp_block ?_
      refine awp_loopJ fun I hI => ?_
      have key : ∀ (suf pre : List (List api_Node)) (v_13 : Int) (newslice_14 : (List api_Node)), slices_1 = pre ++ suf → v_13 = (pre.length : Int) → slices_Concat_api_Node_l1 suf v_13 newslice_14 = some e1 → ∀ (nx : Nat) (g6 : Nat), I ⟨[(6, .row 6 g6 newslice_14.length), (25, .list 1 (slices_1.map (pvL 5 api_Node.pv))), (26, .int .i64 (slices_1.length : Int)), (27, .int .i64 v_13)], [(6, g6, .row false 5 (newslice_14.map api_Node.pv))], nx⟩ := by
        intro suf
        induction suf with
        | nil =>
          intro pre v_13 newslice_14 hsplit hidx hh nx g6
          rw [slices_Concat_api_Node_l1] at hh
          refine hI _ ?_
          have h16 := walk_nil hsplit hidx
          refine awp_first fun K kk hK => ?_
          simp only [go_sem]
          refine hK _ _ fun nx => ?_; clear hK K; try clear kk
          refine awp_seq ?_
          refine awp_false (by first | exact congrArg PV.bool h16 | rfl) ?_
          refine awp_exit ?_; refine nmx ?_
          refine fragN ?_
          refine cut_id ?_
          refine ⟨_, (Option.some.inj hh), ?_⟩
          first | exact ⟨_, _, _, _, rfl⟩ | (simp only [diptychlaw5_Cell.pv_eq, api_Attr.pv_eq, api_Node.pv_eq, token_Token.pv_eq, piece_flat.pv_eq, place_Spot.pv_eq, diptychref4_Spot.pv_eq, pvL, List.map_cons, List.map_nil, List.map_append, rune1]; exact ⟨_, _, _, _, rfl⟩) | (simp only [diptychlaw5_Cell.pv_eq, api_Attr.pv_eq, api_Node.pv_eq, token_Token.pv_eq, piece_flat.pv_eq, place_Spot.pv_eq, diptychref4_Spot.pv_eq, pvL, List.map_cons, List.map_nil, List.map_append, rune1, h16]; exact ⟨_, _, _, _, rfl⟩)
        | cons y_17 suf ih =>
          intro pre v_13 newslice_14 hsplit hidx hh nx g6
          rw [slices_Concat_api_Node_l1] at hh
          refine hI _ ?_
          obtain ⟨hl1a, hl1b, hl1d, hl1w, h16⟩ := walk_cons (f := (pvL 5 api_Node.pv)) hsplit hidx hlen1
          refine awp_first fun K kk hK => ?_
          simp only [go_sem]
          refine hK _ _ fun nx => ?_; clear hK K; try clear kk
          refine awp_seq ?_
          refine awp_true (by first | exact congrArg PV.bool h16 | rfl) ?_
          refine awp_skip ?_; refine nmx ?_
          refine awp_seq ?_
          refine awp_block ?_
          refine awp_first fun K kk hK => ?_
          simp only [go_sem, hl1a, hl1b, hl1d, hl1w]
          refine hK _ _ fun nx => ?_; clear hK K; try clear kk
          obtain ⟨l_18, h17, hh⟩ := bind_ex hh
          obtain ⟨h17a, h17c⟩ := app_some h17
          have h17d := app_map (f := api_Node.pv) h17c
          have h17e := app_len h17c
          try simp only [List.length_cons, List.length_nil, Nat.zero_add, Nat.reduceAdd] at h17a h17e
          try simp only [h17e] at h17a
          try simp only [List.map_cons, List.map_nil, List.nil_append, List.append_nil, List.cons_append, List.singleton_append, rune1, diptychlaw5_Cell.pv_eq, api_Attr.pv_eq, api_Node.pv_eq, token_Token.pv_eq, piece_flat.pv_eq, place_Spot.pv_eq, diptychref4_Spot.pv_eq, pvL] at h17d
          refine awp_region fun K kk hK => ?_
          simp only [go_sem, h17a, h17d, h17e, hl1a, hl1b, hl1d, hl1w]
          (repeat refine sd ?_)
          refine hK _ _ fun nx => ?_; clear hK K; try clear kk
          refine nmx ?_
          refine awp_region fun K kk hK => ?_
          simp only [go_sem, hl1a, hl1b, hl1d, hl1w]
          refine hK _ _ fun nx => ?_; clear hK K; try clear kk
          refine nmx ?_
          have ih' := ih (pre ++ [y_17]) (v_13 + 1) _ (by rw [hsplit]; simp) (by simp [hidx]) hh nx
          refine cut_id ?_
          first | exact ih' _ | (simp only [diptychlaw5_Cell.pv_eq, api_Attr.pv_eq, api_Node.pv_eq, token_Token.pv_eq, piece_flat.pv_eq, place_Spot.pv_eq, diptychref4_Spot.pv_eq, pvL, List.map_cons, List.map_nil, List.map_append, rune1, h17e] at ih' ⊢; exact ih' _) | (simp only [diptychlaw5_Cell.pv_eq, api_Attr.pv_eq, api_Node.pv_eq, token_Token.pv_eq, piece_flat.pv_eq, place_Spot.pv_eq, diptychref4_Spot.pv_eq, pvL, List.map_cons, List.map_nil, List.map_append, rune1, h17e, h16] at ih' ⊢; exact ih' _)
      exact key slices_1 [] _ _ rfl rfl f1 _ _
    · rintro s ⟨t, hless, newslice_21, rfl, v_19, v_20, nx, g6, rfl⟩
      try dsimp only at hh
      refine nmy ?_
      first | (refine cut_less hless ?_; try refine cut_awp ?_) | refine frag_less hless ?_ | refine body_less hless ?_
      refine awp_first fun K kk hK => ?_
      simp only [go_sem]
      refine hK _ _ fun nx => ?_; clear hK K; try clear kk
      refine awp_ret ?_; refine nmx ?_
      obtain hR := Option.some.inj hh
      subst hR
      exact ret_own (by rfl) (by rfl) (by rfl) (by simp only [List.length_map, List.length_cons, List.length_nil, Nat.zero_add, Nat.reduceAdd]) (by first | rfl | (simp only [diptychlaw5_Cell.pv_eq, api_Attr.pv_eq, api_Node.pv_eq, token_Token.pv_eq, piece_flat.pv_eq, place_Spot.pv_eq, diptychref4_Spot.pv_eq, pvL, List.map_cons, List.map_nil, List.map_append, rune1]; done) | (simp only [diptychlaw5_Cell.pv_eq, api_Attr.pv_eq, api_Node.pv_eq, token_Token.pv_eq, piece_flat.pv_eq, place_Spot.pv_eq, diptychref4_Spot.pv_eq, pvL, List.map_cons, List.map_nil, List.map_append, rune1]; rfl))
    · intro i s h; exact h.elim
    · intro s h; exact h.elim
  · intro i s h; exact h.elim
  · intro s h; exact h.elim
theorem place_With_grp : ∀ kr : Nat, (∀ (n_1 : api_Node) (path_2 : (List Int)) (m_3 : api_Node) (R : (api_Node × Int)), place_With_k kr n_1 path_2 m_3 = some R → PC Tryd.prog 77 [.agg [.str n_1.Kind, .str n_1.Text, .list 1 (n_1.Marks.map PV.str), .list 2 (n_1.Attrs.map api_Attr.pv), .list 5 (n_1.Kids.map api_Node.pv)], .list 1 (path_2.map (PV.int .i64)), .agg [.str m_3.Kind, .str m_3.Text, .list 1 (m_3.Marks.map PV.str), .list 2 (m_3.Attrs.map api_Attr.pv), .list 5 (m_3.Kids.map api_Node.pv)]] (.tup [.agg [.str R.1.Kind, .str R.1.Text, .list 1 (R.1.Marks.map PV.str), .list 2 (R.1.Attrs.map api_Attr.pv), .list 5 (R.1.Kids.map api_Node.pv)], .int .i64 R.2])) := by
  intro kr
  induction kr with
  | zero => exact (by intro n_1 path_2 m_3 R hh; rw [place_With_k] at hh; cases hh)
  | succ kr ih =>
    have ih_place_With := ih
    clear ih
    intro n_1 path_2 m_3 R hh
    rw [place_With_k] at hh
    refine start_place_With rfl ?_
    refine awp_first fun K kk hK => ?_
    simp only [go_sem]
    refine hK _ _ fun nx => ?_; clear hK K; try clear kk
    refine awp_seq ?_
    obtain ⟨⟨r_4, r_5⟩, h1, hh⟩ := bind_ex hh
    dsimp only at hh
    refine awp_first fun K kk hK => ?_
    simp only [go_sem]
    refine step_call2 (place_Inner_ok _ _ _ h1) (by (try simp only [go_sem]) <;> exact wkl) (by rfl) (by rfl) ?_
    simp only [go_sem]
    refine hK _ _ fun nx => ?_; clear hK K; try clear kk
    refine awp_first fun K kk hK => ?_
    simp only [go_sem]
    refine hK _ _ fun nx => ?_; clear hK K; try clear kk
    by_cases h2 : (r_5 != (0 : Int)) = true
    · rw [if_pos h2] at hh
      refine awp_true (by first | exact congrArg PV.bool h2 | rfl) ?_
      refine awp_first fun K kk hK => ?_
      simp only [go_sem]
      refine hK _ _ fun nx => ?_; clear hK K; try clear kk
      refine awp_ret ?_; refine nmx ?_
      obtain hR := Option.some.inj hh
      subst hR
      exact ret_p2
    · rw [if_neg h2] at hh
      replace h2 := Bool.eq_false_iff.mpr h2
      refine awp_false (by first | exact congrArg PV.bool h2 | rfl) ?_
      refine awp_skip ?_; refine nmx ?_
      refine awp_seq ?_
      refine awp_first fun K kk hK => ?_
      simp only [go_sem]
      refine hK _ _ fun nx => ?_; clear hK K; try clear kk
      by_cases h3 : ((path_2.length : Int) == (0 : Int)) = true
      · rw [if_pos h3] at hh
        refine awp_true (by first | exact congrArg PV.bool h3 | rfl) ?_
        refine awp_first fun K kk hK => ?_
        simp only [go_sem]
        refine hK _ _ fun nx => ?_; clear hK K; try clear kk
        refine awp_ret ?_; refine nmx ?_
        obtain hR := Option.some.inj hh
        subst hR
        exact ret_p2
      · rw [if_neg h3] at hh
        replace h3 := Bool.eq_false_iff.mpr h3
        refine awp_false (by first | exact congrArg PV.bool h3 | rfl) ?_
        refine awp_skip ?_; refine nmx ?_
        obtain ⟨node_6, h4, hh⟩ := bind_ex hh
        refine awp_first fun K kk hK => ?_
        simp only [go_sem]
        refine step_call2 (slices_Clone_api_Node_ok _ _ h4) (by (try simp only [go_sem]) <;> exact wkl) (by rfl) (by rfl) ?_
        simp only [go_sem]
        refine hK _ _ fun nx => ?_; clear hK K; try clear kk
        obtain ⟨x_7, h5, hh⟩ := bind_ex hh
        obtain ⟨h5a, h5b, h5c⟩ := rd_some h5
        have h5d := rd_get (f := (PV.int .i64)) h5c
        have h5f := rd_more (f := (PV.int .i64)) h5c
        try simp only [Int.toNat_natCast, Int.reduceToNat] at h5d h5f
        obtain ⟨x_8, h6, hh⟩ := bind_ex hh
        obtain ⟨h6a, h6b, h6c⟩ := rd_some h6
        have h6d := rd_get (f := api_Node.pv) h6c
        have h6f := rd_more (f := api_Node.pv) h6c
        try simp only [Int.toNat_natCast, Int.reduceToNat] at h6d h6f
        obtain ⟨s_9, h7, hh⟩ := bind_ex hh
        obtain ⟨h7a, h7c⟩ := sl_some h7
        have h7g := sl_le h7a
        have h7d := sl_map1 (f := (PV.int .i64)) h7c
        try simp only [Int.toNat_natCast, Int.reduceToNat, List.map_cons, List.map_nil, diptychlaw5_Cell.pv_eq, api_Attr.pv_eq, api_Node.pv_eq, token_Token.pv_eq, piece_flat.pv_eq, place_Spot.pv_eq, diptychref4_Spot.pv_eq, pvL] at h7d
        obtain ⟨⟨r_10, r_11⟩, h8, hh⟩ := bind_ex hh
        dsimp only at hh
        obtain ⟨l_12, h9, hh⟩ := bind_ex hh
        obtain ⟨h9a, h9c⟩ := wr_some h9
        have h9d := wr_map (f := api_Node.pv) h9c
        try simp only [Int.toNat_natCast, Int.reduceToNat, List.map_cons, List.map_nil, diptychlaw5_Cell.pv_eq, api_Attr.pv_eq, api_Node.pv_eq, token_Token.pv_eq, piece_flat.pv_eq, place_Spot.pv_eq, diptychref4_Spot.pv_eq, pvL] at h9d
        have h9e := wr_len h9c
        have h6b_h9 := h6b; rw [h9e] at h6b_h9
        have h6f1_h9 := h6f.1; rw [h9e] at h6f1_h9
        have h6a_h9 := h6a; try rw [h9e] at h6a_h9
        have h6d_h9 := h6d; try rw [h9e] at h6d_h9
        try rw [h9e] at h9d
        have h9bw := h9a.2; rw [h9e] at h9bw
        refine awp_first fun K kk hK => ?_
        simp only [go_sem, h5a, h5b, h5d, h5f.1, h5f.2, h5a, h5b, h5d, h5f.1, h5f.2, h6a, h6b, h6d, h6f.1, h6f.2, h7a.1, h7a.2.1, h7a.2.2, h7d, h7g, h6a, h6b, h6d, h6f.1, h6f.2, h9a.1, h9a.2, h9d, h9e, h6b_h9, h6f1_h9, h6a_h9, h6d_h9, h9bw]
        (repeat refine sd ?_)
        refine step_call2 (ih_place_With _ _ _ _ h8) (by (try simp only [go_sem, h5a, h5b, h5d, h5f.1, h5f.2, h5a, h5b, h5d, h5f.1, h5f.2, h6a, h6b, h6d, h6f.1, h6f.2, h7a.1, h7a.2.1, h7a.2.2, h7d, h7g, h6a, h6b, h6d, h6f.1, h6f.2, h9a.1, h9a.2, h9d, h9e, h6b_h9, h6f1_h9, h6a_h9, h6d_h9, h9bw]) <;> exact wkl) (by rfl) (by rfl) ?_
        simp only [go_sem, h5a, h5b, h5d, h5f.1, h5f.2, h5a, h5b, h5d, h5f.1, h5f.2, h6a, h6b, h6d, h6f.1, h6f.2, h7a.1, h7a.2.1, h7a.2.2, h7d, h7g, h6a, h6b, h6d, h6f.1, h6f.2, h9a.1, h9a.2, h9d, h9e, h6b_h9, h6f1_h9, h6a_h9, h6d_h9, h9bw]
        (repeat refine sd ?_)
        try simp only [go_sem, h5a, h5b, h5d, h5f.1, h5f.2, h5a, h5b, h5d, h5f.1, h5f.2, h6a, h6b, h6d, h6f.1, h6f.2, h7a.1, h7a.2.1, h7a.2.2, h7d, h7g, h6a, h6b, h6d, h6f.1, h6f.2, h9a.1, h9a.2, h9d, h9e, h6b_h9, h6f1_h9, h6a_h9, h6d_h9, h9bw]
        refine hK _ _ fun nx => ?_; clear hK K; try clear kk
        refine awp_first fun K kk hK => ?_
        simp only [go_sem]
        refine hK _ _ fun nx => ?_; clear hK K; try clear kk
        refine awp_ret ?_; refine nmx ?_
        obtain hR := Option.some.inj hh
        subst hR
        exact ret_p2
theorem place_With_ok (n_1 : api_Node) (path_2 : (List Int)) (m_3 : api_Node) (R : (api_Node × Int)) (hh : place_With n_1 path_2 m_3 = some R) : PC Tryd.prog 77 [.agg [.str n_1.Kind, .str n_1.Text, .list 1 (n_1.Marks.map PV.str), .list 2 (n_1.Attrs.map api_Attr.pv), .list 5 (n_1.Kids.map api_Node.pv)], .list 1 (path_2.map (PV.int .i64)), .agg [.str m_3.Kind, .str m_3.Text, .list 1 (m_3.Marks.map PV.str), .list 2 (m_3.Attrs.map api_Attr.pv), .list 5 (m_3.Kids.map api_Node.pv)]] (.tup [.agg [.str R.1.Kind, .str R.1.Text, .list 1 (R.1.Marks.map PV.str), .list 2 (R.1.Attrs.map api_Attr.pv), .list 5 (R.1.Kids.map api_Node.pv)], .int .i64 R.2]) := by
  rw [place_With] at hh
  obtain ⟨kr, hh⟩ := lim_some hh
  exact (place_With_grp kr) _ _ _ _ hh
theorem piece_Put_ok (n_1 : api_Node) (from_2 : Int) (to_3 : Int) (l_4 : (List api_Node)) (R : (api_Node × Int)) (hh : piece_Put n_1 from_2 to_3 l_4 = some R) : PC Tryd.prog 40 [.agg [.str n_1.Kind, .str n_1.Text, .list 1 (n_1.Marks.map PV.str), .list 2 (n_1.Attrs.map api_Attr.pv), .list 5 (n_1.Kids.map api_Node.pv)], .int .i64 from_2, .int .i64 to_3, .list 5 (l_4.map api_Node.pv)] (.tup [.agg [.str R.1.Kind, .str R.1.Text, .list 1 (R.1.Marks.map PV.str), .list 2 (R.1.Attrs.map api_Attr.pv), .list 5 (R.1.Kids.map api_Node.pv)], .int .i64 R.2]) := by
  rw [piece_Put] at hh
  refine start_piece_Put rfl ?_
  refine awp_first fun K kk hK => ?_
  simp only [go_sem]
  refine hK _ _ fun nx => ?_; clear hK K; try clear kk
  obtain ⟨⟨r_5, r_6⟩, h1, hh⟩ := bind_ex hh
  dsimp only at hh
  refine awp_first fun K kk hK => ?_
  simp only [go_sem]
  refine step_call2 (piece_where_ok _ _ _ _ h1) (by (try simp only [go_sem]) <;> exact wkl) (by rfl) (by rfl) ?_
  simp only [go_sem]
  refine hK _ _ fun nx => ?_; clear hK K; try clear kk
  refine awp_seq ?_
  by_cases h2 : (r_6 == (2 : Int)) = true
  · rw [if_pos h2] at hh
    refine awp_first fun K kk hK => ?_
    simp only [go_sem, h2, h2]
    (repeat refine sd ?_)
    refine hK _ _ fun nx => ?_; clear hK K; try clear kk
    refine awp_true rfl ?_
    refine awp_first fun K kk hK => ?_
    simp only [go_sem]
    refine hK _ _ fun nx => ?_; clear hK K; try clear kk
    refine awp_ret ?_; refine nmx ?_
    obtain hR := Option.some.inj hh
    subst hR
    exact ret_p2
  · rw [if_neg h2] at hh
    replace h2 := Bool.eq_false_iff.mpr h2
    obtain ⟨join_7, h3, hh⟩ := bind_ex hh
    obtain ⟨check_8, h4, hh⟩ := bind_ex hh
    refine awp_first fun K kk hK => ?_
    simp only [go_sem, h2, h2]
    (repeat refine sd ?_)
    refine step_call2 (node_Join_ok _ _ h3).list (by (try simp only [go_sem, h2, h2]) <;> exact wkl) (by rfl) (by rfl) ?_
    simp only [go_sem, h2, h2]
    (repeat refine sd ?_)
    refine step_call2 (node_Check_ok _ _ h4) (by (try simp only [go_sem, h2, h2]) <;> exact wkl) (by rfl) (by rfl) ?_
    simp only [go_sem, h2, h2]
    (repeat refine sd ?_)
    refine hK _ _ fun nx => ?_; clear hK K; try clear kk
    by_cases h5 : (check_8 == (2 : Int)) = true
    · rw [if_pos h5] at hh
      refine awp_true (by first | exact congrArg PV.bool h5 | rfl) ?_
      refine awp_first fun K kk hK => ?_
      simp only [go_sem]
      refine hK _ _ fun nx => ?_; clear hK K; try clear kk
      refine awp_ret ?_; refine nmx ?_
      obtain hR := Option.some.inj hh
      subst hR
      exact ret_p2
    · rw [if_neg h5] at hh
      replace h5 := Bool.eq_false_iff.mpr h5
      refine awp_false (by first | exact congrArg PV.bool h5 | rfl) ?_
      refine awp_skip ?_; refine nmx ?_
      refine awp_seq ?_
      refine awp_first fun K kk hK => ?_
      simp only [go_sem]
      refine hK _ _ fun nx => ?_; clear hK K; try clear kk
      by_cases h6 : (r_6 != (0 : Int)) = true
      · rw [if_pos h6] at hh
        refine awp_true (by first | exact congrArg PV.bool h6 | rfl) ?_
        refine awp_first fun K kk hK => ?_
        simp only [go_sem]
        refine hK _ _ fun nx => ?_; clear hK K; try clear kk
        refine awp_ret ?_; refine nmx ?_
        obtain hR := Option.some.inj hh
        subst hR
        exact ret_p2
      · rw [if_neg h6] at hh
        replace h6 := Bool.eq_false_iff.mpr h6
        refine awp_false (by first | exact congrArg PV.bool h6 | rfl) ?_
        refine awp_skip ?_; refine nmx ?_
        obtain ⟨⟨r_9, r_10, r_11⟩, h7, hh⟩ := bind_ex hh
        dsimp only at hh
        refine awp_first fun K kk hK => ?_
        simp only [go_sem]
        refine step_call2 (piece_Split_ok _ _ _ h7) (by (try simp only [go_sem]) <;> exact wkl) (by rfl) (by rfl) ?_
        simp only [go_sem]
        refine hK _ _ fun nx => ?_; clear hK K; try clear kk
        obtain ⟨⟨r_12, r_13, r_14⟩, h8, hh⟩ := bind_ex hh
        dsimp only at hh
        refine awp_first fun K kk hK => ?_
        simp only [go_sem]
        refine step_call2 (piece_Split_ok _ _ _ h8) (by (try simp only [go_sem]) <;> exact wkl) (by rfl) (by rfl) ?_
        simp only [go_sem]
        refine hK _ _ fun nx => ?_; clear hK K; try clear kk
        obtain ⟨node_15, h9, hh⟩ := bind_ex hh
        obtain ⟨join_16, h10, hh⟩ := bind_ex hh
        refine awp_first fun K kk hK => ?_
        simp only [go_sem]
        refine step_call2 (slices_Concat_api_Node_ok _ _ h9).list (by (try simp only [go_sem]) <;> exact wkl) (by rfl) (by rfl) ?_
        simp only [go_sem]
        refine step_call2 (node_Join_ok _ _ h10).list (by (try simp only [go_sem]) <;> exact wkl) (by rfl) (by rfl) ?_
        simp only [go_sem]
        refine hK _ _ fun nx => ?_; clear hK K; try clear kk
        obtain ⟨⟨r_17, r_18⟩, h11, hh⟩ := bind_ex hh
        dsimp only at hh
        refine awp_first fun K kk hK => ?_
        simp only [go_sem]
        refine step_call2 (place_With_ok _ _ _ _ h11) (by (try simp only [go_sem]) <;> exact wkl) (by rfl) (by rfl) ?_
        simp only [go_sem]
        refine hK _ _ fun nx => ?_; clear hK K; try clear kk
        refine awp_seq ?_
        obtain ⟨check_19, h12, hh⟩ := bind_ex hh
        refine awp_first fun K kk hK => ?_
        simp only [go_sem]
        refine step_call2 (node_Check_ok _ _ h12) (by (try simp only [go_sem]) <;> exact wkl) (by rfl) (by rfl) ?_
        simp only [go_sem]
        refine hK _ _ fun nx => ?_; clear hK K; try clear kk
        refine awp_first fun K kk hK => ?_
        simp only [go_sem]
        refine hK _ _ fun nx => ?_; clear hK K; try clear kk
        by_cases h13 : (check_19 != (0 : Int)) = true
        · rw [if_pos h13] at hh
          refine awp_true (by first | exact congrArg PV.bool h13 | rfl) ?_
          refine awp_first fun K kk hK => ?_
          simp only [go_sem]
          refine hK _ _ fun nx => ?_; clear hK K; try clear kk
          refine awp_ret ?_; refine nmx ?_
          obtain hR := Option.some.inj hh
          subst hR
          exact ret_p2
        · rw [if_neg h13] at hh
          replace h13 := Bool.eq_false_iff.mpr h13
          refine awp_false (by first | exact congrArg PV.bool h13 | rfl) ?_
          refine awp_skip ?_; refine nmx ?_
          refine awp_first fun K kk hK => ?_
          simp only [go_sem]
          refine hK _ _ fun nx => ?_; clear hK K; try clear kk
          refine awp_ret ?_; refine nmx ?_
          obtain hR := Option.some.inj hh
          subst hR
          exact ret_p2
theorem diptychlaw5_shown_ok (R : Bool) (hh : diptychlaw5_shown = some R) : PC Tryd.prog 30 [] (.bool R) := by
  rw [diptychlaw5_shown] at hh
  refine start_diptychlaw5_shown rfl ?_
  refine awp_first fun K kk hK => ?_
  simp only [go_sem]
  refine hK _ _ fun nx => ?_; clear hK K; try clear kk
  refine awp_first fun K kk hK => ?_
  simp only [go_sem]
  refine hK _ _ fun nx => ?_; clear hK K; try clear kk
  obtain ⟨⟨r_1, r_2⟩, h1, hh⟩ := bind_ex hh
  dsimp only at hh
  refine awp_first fun K kk hK => ?_
  simp only [go_sem]
  refine step_call2 (piece_Put_ok _ _ _ _ _ h1) (by (try simp only [go_sem]) <;> exact wkl) (by rfl) (by rfl) ?_
  simp only [go_sem]
  refine hK _ _ fun nx => ?_; clear hK K; try clear kk
  by_cases h2 : (r_2 == (0 : Int)) = true
  · rw [if_pos h2] at hh
    by_cases h3 : ((r_1.Kids.length : Int) == (1 : Int)) = true
    · rw [if_pos h3] at hh
      obtain ⟨x_3, h4, hh⟩ := bind_ex hh
      obtain ⟨h4a, h4b, h4c⟩ := rd_some h4
      have h4d := rd_get (f := api_Node.pv) h4c
      have h4f := rd_more (f := api_Node.pv) h4c
      try simp only [Int.toNat_natCast, Int.reduceToNat] at h4d h4f
      by_cases h5 : ((x_3.Kids.length : Int) == (1 : Int)) = true
      · rw [if_pos h5] at hh
        obtain ⟨x_4, h6, hh⟩ := bind_ex hh
        obtain ⟨h6a, h6b, h6c⟩ := rd_some h6
        have h6d := rd_get (f := api_Node.pv) h6c
        have h6f := rd_more (f := api_Node.pv) h6c
        try simp only [Int.toNat_natCast, Int.reduceToNat] at h6d h6f
        refine awp_first fun K kk hK => ?_
        simp only [go_sem, h2, h2, h3, h4a, h4b, h4d, h4f.1, h4f.2, h3, h5, h4a, h4b, h4d, h4f.1, h4f.2, h6a, h6b, h6d, h6f.1, h6f.2, h5]
        (repeat refine sd ?_)
        refine hK _ _ fun nx => ?_; clear hK K; try clear kk
        refine awp_ret ?_; refine nmx ?_
        obtain hR := Option.some.inj hh
        subst hR
        exact ret_p2
      · rw [if_neg h5] at hh
        replace h5 := Bool.eq_false_iff.mpr h5
        refine awp_first fun K kk hK => ?_
        simp only [go_sem, h2, h2, h3, h4a, h4b, h4d, h4f.1, h4f.2, h3, h5, h5]
        (repeat refine sd ?_)
        refine hK _ _ fun nx => ?_; clear hK K; try clear kk
        refine awp_ret ?_; refine nmx ?_
        obtain hR := Option.some.inj hh
        subst hR
        exact ret_p2
    · rw [if_neg h3] at hh
      replace h3 := Bool.eq_false_iff.mpr h3
      refine awp_first fun K kk hK => ?_
      simp only [go_sem, h2, h2, h3, h3]
      (repeat refine sd ?_)
      refine hK _ _ fun nx => ?_; clear hK K; try clear kk
      refine awp_ret ?_; refine nmx ?_
      obtain hR := Option.some.inj hh
      subst hR
      exact ret_p2
  · rw [if_neg h2] at hh
    replace h2 := Bool.eq_false_iff.mpr h2
    refine awp_first fun K kk hK => ?_
    simp only [go_sem, h2, h2]
    (repeat refine sd ?_)
    refine hK _ _ fun nx => ?_; clear hK K; try clear kk
    refine awp_ret ?_; refine nmx ?_
    obtain hR := Option.some.inj hh
    subst hR
    exact ret_p2
theorem diptychlaw5_pick_ok (c_1 : Int) (n_2 : Int) (R : Int) (hh : diptychlaw5_pick c_1 n_2 = some R) : PC Tryd.prog 32 [.int .i64 c_1, .int .i64 n_2] (.int .i64 R) := by
  rw [diptychlaw5_pick] at hh
  refine start_diptychlaw5_pick rfl ?_
  refine awp_first fun K kk hK => ?_
  simp only [go_sem]
  refine hK _ _ fun nx => ?_; clear hK K; try clear kk
  refine awp_seq ?_
  refine awp_first fun K kk hK => ?_
  simp only [go_sem]
  refine hK _ _ fun nx => ?_; clear hK K; try clear kk
  by_cases h1 : (decide (c_1 < (0 : Int))) = true
  · rw [if_pos h1] at hh
    refine awp_true (by first | exact congrArg PV.bool h1 | rfl) ?_
    refine awp_region fun K kk hK => ?_
    simp only [go_sem]
    refine hK _ _ fun nx => ?_; clear hK K; try clear kk
    refine nmx ?_
    obtain ⟨h2, hh⟩ := chk_some hh
    refine awp_first fun K kk hK => ?_
    simp only [go_sem, h2]
    (repeat refine sd ?_)
    refine hK _ _ fun nx => ?_; clear hK K; try clear kk
    refine awp_ret ?_; refine nmx ?_
    obtain hR := Option.some.inj hh
    subst hR
    exact ret_p2
  · rw [if_neg h1] at hh
    replace h1 := Bool.eq_false_iff.mpr h1
    refine awp_false (by first | exact congrArg PV.bool h1 | rfl) ?_
    refine awp_skip ?_; refine nmx ?_
    obtain ⟨h3, hh⟩ := chk_some hh
    refine awp_first fun K kk hK => ?_
    simp only [go_sem, h3]
    (repeat refine sd ?_)
    refine hK _ _ fun nx => ?_; clear hK K; try clear kk
    refine awp_ret ?_; refine nmx ?_
    obtain hR := Option.some.inj hh
    subst hR
    exact ret_p2
theorem diptychref1_sameNames_ok (a_1 : (List Str)) (b_2 : (List Str)) (R : Bool) (hh : diptychref1_sameNames a_1 b_2 = some R) : PC Tryd.prog 92 [.list 1 (a_1.map PV.str), .list 1 (b_2.map PV.str)] (.bool R) := by
  rw [diptychref1_sameNames] at hh
  refine start_diptychref1_sameNames rfl ?_
  refine awp_first fun K kk hK => ?_
  simp only [go_sem]
  refine hK _ _ fun nx => ?_; clear hK K; try clear kk
  refine awp_seq ?_
  refine awp_first fun K kk hK => ?_
  simp only [go_sem]
  refine hK _ _ fun nx => ?_; clear hK K; try clear kk
  by_cases h1 : ((a_1.length : Int) != (b_2.length : Int)) = true
  · rw [if_pos h1] at hh
    refine awp_true (by first | exact congrArg PV.bool h1 | rfl) ?_
    refine awp_first fun K kk hK => ?_
    simp only [go_sem]
    refine hK _ _ fun nx => ?_; clear hK K; try clear kk
    refine awp_ret ?_; refine nmx ?_
    obtain hR := Option.some.inj hh
    subst hR
    exact ret_p2
  · rw [if_neg h1] at hh
    replace h1 := Bool.eq_false_iff.mpr h1
    refine awp_false (by first | exact congrArg PV.bool h1 | rfl) ?_
    refine awp_skip ?_; refine nmx ?_
    refine awp_seq ?_
    refine awp_first fun K kk hK => ?_
    simp only [go_sem]
    refine hK _ _ fun nx => ?_; clear hK K; try clear kk
    obtain ⟨e0, f0, hh⟩ := bind_ex hh
    obtain ⟨hlen0, f0⟩ := chk_some f0
    refine awp_fragE (CutTo (fun s => .inr () = e0 ∧ ∃ (i_11 : Int) (v_12 : Bool) (nx : Nat), s = ⟨[(0, .list 1 (a_1.map PV.str)), (1, .list 1 (b_2.map PV.str)), (5, .int .i64 i_11), (14, .bool v_12)], [], nx⟩))
      (fun i s => False)
      (fun s => ∃ res_10, .inl res_10 = e0 ∧ bodyR Tryd.prog [.tmp 4] (.bool res_10) [] .ret s) ?_ ?_ ?_ ?_
    · refine awp_block ?_
      refine awp_loopJ fun I hI => ?_
      have key : ∀ (suf pre : List Str) (i_5 : Int), a_1 = pre ++ suf → i_5 = (pre.length : Int) → diptychref1_sameNames_l0 b_2 suf i_5 = some e0 → ∀ (nx : Nat), I ⟨[(0, .list 1 (a_1.map PV.str)), (1, .list 1 (b_2.map PV.str)), (5, .int .i64 i_5)], [], nx⟩ := by
        intro suf
        induction suf with
        | nil =>
          intro pre i_5 hsplit hidx hh nx
          rw [diptychref1_sameNames_l0] at hh
          refine hI _ ?_
          have h10 := walk_nil hsplit hidx
          refine awp_seq ?_
          refine awp_first fun K kk hK => ?_
          simp only [go_sem]
          refine hK _ _ fun nx => ?_; clear hK K; try clear kk
          refine awp_false (by first | exact congrArg PV.bool h10 | rfl) ?_
          refine awp_exit ?_; refine nmx ?_
          refine fragN ?_
          refine cut_id ?_
          refine ⟨(Option.some.inj hh), ?_⟩
          first | exact ⟨_, _, _, rfl⟩ | (simp only [diptychlaw5_Cell.pv_eq, api_Attr.pv_eq, api_Node.pv_eq, token_Token.pv_eq, piece_flat.pv_eq, place_Spot.pv_eq, diptychref4_Spot.pv_eq, pvL, List.map_cons, List.map_nil, List.map_append, rune1]; exact ⟨_, _, _, rfl⟩) | (simp only [diptychlaw5_Cell.pv_eq, api_Attr.pv_eq, api_Node.pv_eq, token_Token.pv_eq, piece_flat.pv_eq, place_Spot.pv_eq, diptychref4_Spot.pv_eq, pvL, List.map_cons, List.map_nil, List.map_append, rune1, h1, h10]; exact ⟨_, _, _, rfl⟩)
        | cons y_8 suf ih =>
          intro pre i_5 hsplit hidx hh nx
          rw [diptychref1_sameNames_l0] at hh
          refine hI _ ?_
          obtain ⟨hl0a, hl0b, hl0d, hl0w, h10⟩ := walk_cons (f := PV.str) hsplit hidx hlen0
          refine awp_seq ?_
          refine awp_first fun K kk hK => ?_
          simp only [go_sem]
          refine hK _ _ fun nx => ?_; clear hK K; try clear kk
          refine awp_true (by first | exact congrArg PV.bool h10 | rfl) ?_
          refine awp_skip ?_; refine nmx ?_
          refine awp_seq ?_
          refine awp_block ?_
          obtain ⟨x_9, h11, hh⟩ := bind_ex hh
          obtain ⟨h11a, h11b, h11c⟩ := rd_some h11
          have h11d := rd_get (f := PV.str) h11c
          have h11f := rd_more (f := PV.str) h11c
          try simp only [Int.toNat_natCast, Int.reduceToNat] at h11d h11f
          refine awp_first fun K kk hK => ?_
          simp only [go_sem, h11a, h11b, h11d, h11f.1, h11f.2, hl0a, hl0b, hl0d, hl0w]
          (repeat refine sd ?_)
          refine hK _ _ fun nx => ?_; clear hK K; try clear kk
          by_cases h12 : (!(y_8 == x_9)) = true
          · rw [if_pos h12] at hh
            refine awp_true (by first | exact congrArg PV.bool h12 | rfl) ?_
            refine awp_first fun K kk hK => ?_
            simp only [go_sem, hl0a, hl0b, hl0d, hl0w]
            refine hK _ _ fun nx => ?_; clear hK K; try clear kk
            refine awp_ret ?_; refine nmx ?_
            refine fragR ⟨_, (Option.some.inj hh), ?_⟩
            exact ret_p2
          · rw [if_neg h12] at hh
            replace h12 := Bool.eq_false_iff.mpr h12
            refine awp_false (by first | exact congrArg PV.bool h12 | rfl) ?_
            refine awp_skip ?_; refine nmx ?_
            refine awp_region fun K kk hK => ?_
            simp only [go_sem, hl0a, hl0b, hl0d, hl0w]
            refine hK _ _ fun nx => ?_; clear hK K; try clear kk
            refine nmx ?_
            have ih' := ih (pre ++ [y_8]) (i_5 + 1) (by rw [hsplit]; simp) (by simp [hidx]) hh nx
            refine cut_id ?_
            first | exact ih' | (simp only [diptychlaw5_Cell.pv_eq, api_Attr.pv_eq, api_Node.pv_eq, token_Token.pv_eq, piece_flat.pv_eq, place_Spot.pv_eq, diptychref4_Spot.pv_eq, pvL, List.map_cons, List.map_nil, List.map_append, rune1] at ih' ⊢; exact ih') | (simp only [diptychlaw5_Cell.pv_eq, api_Attr.pv_eq, api_Node.pv_eq, token_Token.pv_eq, piece_flat.pv_eq, place_Spot.pv_eq, diptychref4_Spot.pv_eq, pvL, List.map_cons, List.map_nil, List.map_append, rune1, h1, h10, h12] at ih' ⊢; exact ih')
      exact key a_1 [] _ rfl rfl f0 _
    · rintro s ⟨t, hless, rfl, i_11, v_12, nx, rfl⟩
      try dsimp only at hh
      refine nmy ?_
      first | (refine cut_less hless ?_; try refine cut_awp ?_) | refine frag_less hless ?_ | refine body_less hless ?_
      refine awp_first fun K kk hK => ?_
      simp only [go_sem]
      refine hK _ _ fun nx => ?_; clear hK K; try clear kk
      refine awp_ret ?_; refine nmx ?_
      obtain hR := Option.some.inj hh
      subst hR
      exact ret_p2
    · intro i s h; exact h.elim
    · rintro s ⟨res_10, rfl, hb⟩
      try dsimp only at hh
      obtain hR := Option.some.inj hh
      subst hR
      refine nmx ?_
      exact hb

end Go.Proofs.YtblielhogcnnkaaDoor
