/- What the functions answer, the program answers (6). -/
import Derived.Test.YtblielhogcnnkaaDoorAgC
import Derived.Test.YtblielhogcnnkaaDoorAgF
import Derived.Test.YtblielhogcnnkaaDoorAgK0
import Derived.Test.YtblielhogcnnkaaDoorAgK1
import Derived.Test.YtblielhogcnnkaaDoorAgK3
import Derived.Test.YtblielhogcnnkaaDoorAgK5
import Derived.Test.YtblielhogcnnkaaDoorAgL
namespace Go.Proofs.YtblielhogcnnkaaDoor
set_option linter.unusedSimpArgs false
set_option linter.unusedVariables false
open Go
set_option maxRecDepth 100000

theorem diptychlaw5_flat_ok (n_1 : api_Node) (from_2 : Int) (to_3 : Int) (R : (Int × Int)) (hh : diptychlaw5_flat n_1 from_2 to_3 = some R) : PC Tryd.prog 41 [.agg [.str n_1.Kind, .str n_1.Text, .list 1 (n_1.Marks.map PV.str), .list 2 (n_1.Attrs.map api_Attr.pv), .list 5 (n_1.Kids.map api_Node.pv)], .int .i64 from_2, .int .i64 to_3] (.tup [.int .i64 R.1, .int .i64 R.2]) := by
  rw [diptychlaw5_flat] at hh
  refine start_diptychlaw5_flat rfl ?_
  refine awp_first fun K kk hK => ?_
  simp only [go_sem]
  refine hK _ _ fun nx => ?_; clear hK K; try clear kk
  obtain ⟨total_4, h1, hh⟩ := bind_ex hh
  obtain ⟨pick_5, h2, hh⟩ := bind_ex hh
  refine awp_first fun K kk hK => ?_
  simp only [go_sem]
  refine step_call2 (node_Total_ok _ _ h1) (by (try simp only [go_sem]) <;> exact wkl) (by rfl) (by rfl) ?_
  simp only [go_sem]
  refine step_call2 (diptychlaw5_pick_ok _ _ _ h2) (by (try simp only [go_sem]) <;> exact wkl) (by rfl) (by rfl) ?_
  simp only [go_sem]
  refine hK _ _ fun nx => ?_; clear hK K; try clear kk
  obtain ⟨total_6, h3, hh⟩ := bind_ex hh
  obtain ⟨pick_7, h4, hh⟩ := bind_ex hh
  refine awp_first fun K kk hK => ?_
  simp only [go_sem]
  refine step_call2 (node_Total_ok _ _ h3) (by (try simp only [go_sem]) <;> exact wkl) (by rfl) (by rfl) ?_
  simp only [go_sem]
  refine step_call2 (diptychlaw5_pick_ok _ _ _ h4) (by (try simp only [go_sem]) <;> exact wkl) (by rfl) (by rfl) ?_
  simp only [go_sem]
  refine hK _ _ fun nx => ?_; clear hK K; try clear kk
  obtain ⟨⟨r_8, r_9⟩, h5, hh⟩ := bind_ex hh
  dsimp only at hh
  refine awp_first fun K kk hK => ?_
  simp only [go_sem]
  refine step_call2 (place_Resolve_ok _ _ _ h5) (by (try simp only [go_sem]) <;> exact wkl) (by rfl) (by rfl) ?_
  simp only [go_sem]
  refine hK _ _ fun nx => ?_; clear hK K; try clear kk
  refine awp_seq ?_
  obtain ⟨e0, f0, hh⟩ := bind_ex hh
  refine awp_frag (fun s => ∃ b_17, b_17 = e0 ∧ ∃ (nx : Nat) (g3 : Nat) (g10 : Nat), s = ⟨[(3, .box 3 g3 0), (8, .int .i64 pick_5), (9, .int .i64 b_17), (10, .box 10 g10 0)], [(3, g3, .var 28 [.str n_1.Kind, .str n_1.Text, .list 1 (n_1.Marks.map PV.str), .list 2 (n_1.Attrs.map api_Attr.pv), .list 5 (n_1.Kids.map api_Node.pv)]), (10, g10, .var 70 [.list 1 (r_8.Path.map (PV.int .i64)), .int .i64 r_8.Index, .int .i64 r_8.Offset])], nx⟩)
    (fun i s => False)
    (fun s => False) ?_ ?_ ?_ ?_
  · refine awp_block ?_
    refine awp_loopJ fun I hI => ?_
    obtain ⟨k, f0⟩ := lim_some f0
    have key : ∀ (k : Nat) (b_13 : Int), diptychlaw5_flat_l0 n_1 pick_5 r_8 k b_13 = some e0 → ∀ (nx : Nat) (g3 : Nat) (g10 : Nat), I ⟨[(3, .box 3 g3 0), (8, .int .i64 pick_5), (9, .int .i64 b_13), (10, .box 10 g10 0)], [(3, g3, .var 28 [.str n_1.Kind, .str n_1.Text, .list 1 (n_1.Marks.map PV.str), .list 2 (n_1.Attrs.map api_Attr.pv), .list 5 (n_1.Kids.map api_Node.pv)]), (10, g10, .var 70 [.list 1 (r_8.Path.map (PV.int .i64)), .int .i64 r_8.Index, .int .i64 r_8.Offset])], nx⟩ := by
      intro k
      induction k with
      | zero => intro b_13 hh; rw [diptychlaw5_flat_l0] at hh; cases hh
      | succ k ih =>
        intro b_13 hh nx g3 g10
        rw [diptychlaw5_flat_l0] at hh
        refine hI _ ?_
        refine awp_seq ?_
        refine awp_first fun K kk hK => ?_
        simp only [go_sem]
        refine hK _ _ fun nx => ?_; clear hK K; try clear kk
        by_cases h11 : (b_13 != pick_5) = true
        · rw [if_pos h11] at hh
          refine awp_true (by first | exact congrArg PV.bool h11 | rfl) ?_
          refine awp_skip ?_; refine nmx ?_
          refine awp_block ?_
          obtain ⟨⟨r_14, r_15⟩, h12, hh⟩ := bind_ex hh
          dsimp only at hh
          refine awp_first fun K kk hK => ?_
          simp only [go_sem]
          refine step_call2 (place_Resolve_ok _ _ _ h12) (by (try simp only [go_sem]) <;> exact wkl) (by rfl) (by rfl) ?_
          simp only [go_sem]
          refine hK _ _ fun nx => ?_; clear hK K; try clear kk
          refine awp_seq ?_
          obtain ⟨same_16, h13, hh⟩ := bind_ex hh
          refine awp_first fun K kk hK => ?_
          simp only [go_sem]
          refine step_call2 (diptychref4_Same_ok _ _ _ h13) (by (try simp only [go_sem]) <;> exact wkl) (by rfl) (by rfl) ?_
          simp only [go_sem]
          refine hK _ _ fun nx => ?_; clear hK K; try clear kk
          by_cases h14 : (same_16) = true
          · rw [if_pos h14] at hh
            refine awp_true (by first | exact congrArg PV.bool h14 | rfl) ?_
            refine awp_exit ?_; refine nmx ?_
            refine fragN ?_
            refine cut_to (less_cut _ [3, 8, 9, 10] [3, 10]) ?_
            refine ⟨_, (Option.some.inj hh), ?_⟩
            first | exact ⟨_, _, _, rfl⟩ | (simp only [diptychlaw5_Cell.pv_eq, api_Attr.pv_eq, api_Node.pv_eq, token_Token.pv_eq, piece_flat.pv_eq, place_Spot.pv_eq, diptychref4_Spot.pv_eq, pvL, List.map_cons, List.map_nil, List.map_append, rune1]; exact ⟨_, _, _, rfl⟩) | (simp only [diptychlaw5_Cell.pv_eq, api_Attr.pv_eq, api_Node.pv_eq, token_Token.pv_eq, piece_flat.pv_eq, place_Spot.pv_eq, diptychref4_Spot.pv_eq, pvL, List.map_cons, List.map_nil, List.map_append, rune1, h11, h14]; exact ⟨_, _, _, rfl⟩)
          · rw [if_neg h14] at hh
            replace h14 := Bool.eq_false_iff.mpr h14
            refine awp_false (by first | exact congrArg PV.bool h14 | rfl) ?_
            refine awp_skip ?_; refine nmx ?_
            refine awp_first fun K kk hK => ?_
            simp only [go_sem]
            refine hK _ _ fun nx => ?_; clear hK K; try clear kk
            by_cases h15 : (decide (b_13 < pick_5)) = true
            · rw [if_pos h15] at hh
              refine awp_true (by first | exact congrArg PV.bool h15 | rfl) ?_
              refine awp_region fun K kk hK => ?_
              simp only [go_sem]
              refine hK _ _ fun nx => ?_; clear hK K; try clear kk
              refine nmx ?_
              have ih' := ih _ hh nx
              refine cut_id ?_
              first | exact ih' _ _ | (simp only [diptychlaw5_Cell.pv_eq, api_Attr.pv_eq, api_Node.pv_eq, token_Token.pv_eq, piece_flat.pv_eq, place_Spot.pv_eq, diptychref4_Spot.pv_eq, pvL, List.map_cons, List.map_nil, List.map_append, rune1] at ih' ⊢; exact ih' _ _) | (simp only [diptychlaw5_Cell.pv_eq, api_Attr.pv_eq, api_Node.pv_eq, token_Token.pv_eq, piece_flat.pv_eq, place_Spot.pv_eq, diptychref4_Spot.pv_eq, pvL, List.map_cons, List.map_nil, List.map_append, rune1, h11, h14, h15] at ih' ⊢; exact ih' _ _)
            · rw [if_neg h15] at hh
              replace h15 := Bool.eq_false_iff.mpr h15
              refine awp_false (by first | exact congrArg PV.bool h15 | rfl) ?_
              refine awp_region fun K kk hK => ?_
              simp only [go_sem]
              refine hK _ _ fun nx => ?_; clear hK K; try clear kk
              refine nmx ?_
              have ih' := ih _ hh nx
              refine cut_id ?_
              first | exact ih' _ _ | (simp only [diptychlaw5_Cell.pv_eq, api_Attr.pv_eq, api_Node.pv_eq, token_Token.pv_eq, piece_flat.pv_eq, place_Spot.pv_eq, diptychref4_Spot.pv_eq, pvL, List.map_cons, List.map_nil, List.map_append, rune1] at ih' ⊢; exact ih' _ _) | (simp only [diptychlaw5_Cell.pv_eq, api_Attr.pv_eq, api_Node.pv_eq, token_Token.pv_eq, piece_flat.pv_eq, place_Spot.pv_eq, diptychref4_Spot.pv_eq, pvL, List.map_cons, List.map_nil, List.map_append, rune1, h11, h14, h15] at ih' ⊢; exact ih' _ _)
        · rw [if_neg h11] at hh
          replace h11 := Bool.eq_false_iff.mpr h11
          refine awp_false (by first | exact congrArg PV.bool h11 | rfl) ?_
          refine awp_exit ?_; refine nmx ?_
          refine fragN ?_
          refine cut_to (less_cut _ [3, 8, 9, 10] [3, 10]) ?_
          refine ⟨_, (Option.some.inj hh), ?_⟩
          first | exact ⟨_, _, _, rfl⟩ | (simp only [diptychlaw5_Cell.pv_eq, api_Attr.pv_eq, api_Node.pv_eq, token_Token.pv_eq, piece_flat.pv_eq, place_Spot.pv_eq, diptychref4_Spot.pv_eq, pvL, List.map_cons, List.map_nil, List.map_append, rune1]; exact ⟨_, _, _, rfl⟩) | (simp only [diptychlaw5_Cell.pv_eq, api_Attr.pv_eq, api_Node.pv_eq, token_Token.pv_eq, piece_flat.pv_eq, place_Spot.pv_eq, diptychref4_Spot.pv_eq, pvL, List.map_cons, List.map_nil, List.map_append, rune1, h11]; exact ⟨_, _, _, rfl⟩)
    exact key _ _ f0 _ _ _
  · rintro s ⟨b_17, rfl, nx, g3, g10, rfl⟩
    try dsimp only at hh
    refine awp_first fun K kk hK => ?_
    simp only [go_sem]
    refine hK _ _ fun nx => ?_; clear hK K; try clear kk
    refine awp_ret ?_; refine nmx ?_
    obtain hR := Option.some.inj hh
    subst hR
    exact ret_p2
  · intro i s h; exact h.elim
  · intro s h; exact h.elim
theorem strings_Join_ok (l : (List Str)) (sep : Str) (R : Str) (hh : strings_Join l sep = some R) : PC Tryd.prog 100 [.list 1 (l.map PV.str), .str sep] (.str R) := by
  rw [strings_Join] at hh
  exact lib_join ⟨_, Tryd.func100, by kernel_rfl, by kernel_rfl⟩ Tryd.strings_Join_none Tryd.strings_Join l sep R hh
theorem strings_ReplaceAll_ok (s : Str) (old : Str) (new : Str) (R : Str) (hh : strings_ReplaceAll s old new = some R) : PC Tryd.prog 115 [.str s, .str old, .str new] (.str R) := by
  rw [strings_ReplaceAll] at hh
  exact lib_replaceAll ⟨_, Tryd.func115, by kernel_rfl, by kernel_rfl⟩ (fun _ h => h.2) Tryd.strings_ReplaceAll s old new R hh
theorem codec_Quote_ok (s_1 : Str) (R : Str) (hh : codec_Quote s_1 = some R) : PC Tryd.prog 101 [.str s_1] (.str R) := by
  rw [codec_Quote] at hh
  refine start_codec_Quote rfl ?_
  refine awp_first fun K kk hK => ?_
  simp only [go_sem]
  refine hK _ _ fun nx => ?_; clear hK K; try clear kk
  obtain ⟨replac_2, h1, hh⟩ := bind_ex hh
  refine awp_first fun K kk hK => ?_
  simp only [go_sem]
  refine step_call2 (strings_ReplaceAll_ok _ _ _ _ h1) (by (try simp only [go_sem]) <;> exact wkl) (by rfl) (by rfl) ?_
  simp only [go_sem]
  refine hK _ _ fun nx => ?_; clear hK K; try clear kk
  obtain ⟨replac_3, h2, hh⟩ := bind_ex hh
  obtain ⟨h3, hh⟩ := chk_some hh
  obtain ⟨h4, hh⟩ := chk_some hh
  refine awp_first fun K kk hK => ?_
  simp only [go_sem, h3, h4]
  (repeat refine sd ?_)
  refine step_call2 (strings_ReplaceAll_ok _ _ _ _ h2) (by (try simp only [go_sem, h3, h4]) <;> exact wkl) (by rfl) (by rfl) ?_
  simp only [go_sem, h3, h4]
  (repeat refine sd ?_)
  refine hK _ _ fun nx => ?_; clear hK K; try clear kk
  refine awp_ret ?_; refine nmx ?_
  obtain hR := Option.some.inj hh
  subst hR
  exact ret_p2
theorem codec_Head_ok (n_1 : api_Node) (R : Str) (hh : codec_Head n_1 = some R) : PC Tryd.prog 79 [.agg [.str n_1.Kind, .str n_1.Text, .list 1 (n_1.Marks.map PV.str), .list 2 (n_1.Attrs.map api_Attr.pv), .list 5 (n_1.Kids.map api_Node.pv)]] (.str R) := by
  rw [codec_Head] at hh
  refine start_codec_Head rfl ?_
  refine awp_first fun K kk hK => ?_
  simp only [go_sem]
  refine hK _ _ fun nx => ?_; clear hK K; try clear kk
  refine awp_seq ?_
  refine awp_first fun K kk hK => ?_
  simp only [go_sem]
  refine hK _ _ fun nx => ?_; clear hK K; try clear kk
  by_cases h1 : (n_1.Kind == ([116, 101, 120, 116] : Str)) = true
  · rw [if_pos h1] at hh
    refine awp_true (by first | exact congrArg PV.bool h1 | rfl) ?_
    refine awp_seq ?_
    refine awp_first fun K kk hK => ?_
    simp only [go_sem]
    refine hK _ _ fun nx => ?_; clear hK K; try clear kk
    by_cases h2 : ((n_1.Marks.length : Int) == (0 : Int)) = true
    · rw [if_pos h2] at hh
      refine awp_true (by first | exact congrArg PV.bool h2 | rfl) ?_
      refine awp_first fun K kk hK => ?_
      simp only [go_sem]
      refine hK _ _ fun nx => ?_; clear hK K; try clear kk
      refine awp_ret ?_; refine nmx ?_
      obtain hR := Option.some.inj hh
      subst hR
      exact ret_p2
    · rw [if_neg h2] at hh
      replace h2 := Bool.eq_false_iff.mpr h2
      refine awp_false (by first | exact congrArg PV.bool h2 | rfl) ?_
      refine awp_skip ?_; refine nmx ?_
      obtain ⟨join_2, h3, hh⟩ := bind_ex hh
      obtain ⟨h4, hh⟩ := chk_some hh
      obtain ⟨h5, hh⟩ := chk_some hh
      refine awp_first fun K kk hK => ?_
      simp only [go_sem, h4, h5]
      (repeat refine sd ?_)
      refine step_call2 (strings_Join_ok _ _ _ h3) (by (try simp only [go_sem, h4, h5]) <;> exact wkl) (by rfl) (by rfl) ?_
      simp only [go_sem, h4, h5]
      (repeat refine sd ?_)
      refine hK _ _ fun nx => ?_; clear hK K; try clear kk
      refine awp_ret ?_; refine nmx ?_
      obtain hR := Option.some.inj hh
      subst hR
      exact ret_p2
  · rw [if_neg h1] at hh
    replace h1 := Bool.eq_false_iff.mpr h1
    refine awp_false (by first | exact congrArg PV.bool h1 | rfl) ?_
    refine awp_skip ?_; refine nmx ?_
    refine awp_seq ?_
    refine awp_first fun K kk hK => ?_
    simp only [go_sem]
    refine hK _ _ fun nx => ?_; clear hK K; try clear kk
    by_cases h6 : ((n_1.Attrs.length : Int) == (0 : Int)) = true
    · rw [if_pos h6] at hh
      refine awp_true (by first | exact congrArg PV.bool h6 | rfl) ?_
      refine awp_first fun K kk hK => ?_
      simp only [go_sem]
      refine hK _ _ fun nx => ?_; clear hK K; try clear kk
      refine awp_ret ?_; refine nmx ?_
      obtain hR := Option.some.inj hh
      subst hR
      exact ret_p2
    · rw [if_neg h6] at hh
      replace h6 := Bool.eq_false_iff.mpr h6
      refine awp_false (by first | exact congrArg PV.bool h6 | rfl) ?_
      refine awp_skip ?_; refine nmx ?_
      refine awp_first fun K kk hK => ?_
      simp only [go_sem]
      refine hK _ _ fun nx => ?_; clear hK K; try clear kk
      refine awp_seq ?_
      refine awp_first fun K kk hK => ?_
      simp only [go_sem]
      refine hK _ _ fun nx => ?_; clear hK K; try clear kk
      obtain ⟨e0, f0, hh⟩ := bind_ex hh
      obtain ⟨hlen0, f0⟩ := chk_some f0
      refine awp_fragE (CutTo (fun s => ∃ l_16, l_16 = e0 ∧ ∃ (v_14 : Int) (v_15 : Bool) (nx : Nat) (g1 : Nat) (g3 : Nat), s = ⟨[(1, .box 1 g1 0), (3, .row 3 g3 l_16.length), (25, .list 2 (n_1.Attrs.map api_Attr.pv)), (26, .int .i64 (n_1.Attrs.length : Int)), (27, .int .i64 v_14), (28, .bool v_15)], [(1, g1, .var 28 [.str n_1.Kind, .str n_1.Text, .list 1 (n_1.Marks.map PV.str), .list 2 (n_1.Attrs.map api_Attr.pv), .list 5 (n_1.Kids.map api_Node.pv)]), (3, g3, .row false 1 (l_16.map PV.str))], nx⟩))
        (fun i s => False)
        (fun s => False) ?_ ?_ ?_ ?_
      · refine awp_block ?_
        refine awp_loopJ fun I hI => ?_
        have key : ∀ (suf pre : List api_Attr) (v_6 : Int) (l_7 : (List Str)), n_1.Attrs = pre ++ suf → v_6 = (pre.length : Int) → codec_Head_l0 suf v_6 l_7 = some e0 → ∀ (nx : Nat) (g1 : Nat) (g3 : Nat), I ⟨[(1, .box 1 g1 0), (3, .row 3 g3 l_7.length), (25, .list 2 (n_1.Attrs.map api_Attr.pv)), (26, .int .i64 (n_1.Attrs.length : Int)), (27, .int .i64 v_6)], [(1, g1, .var 28 [.str n_1.Kind, .str n_1.Text, .list 1 (n_1.Marks.map PV.str), .list 2 (n_1.Attrs.map api_Attr.pv), .list 5 (n_1.Kids.map api_Node.pv)]), (3, g3, .row false 1 (l_7.map PV.str))], nx⟩ := by
          intro suf
          induction suf with
          | nil =>
            intro pre v_6 l_7 hsplit hidx hh nx g1 g3
            rw [codec_Head_l0] at hh
            refine hI _ ?_
            have h19 := walk_nil hsplit hidx
            refine awp_first fun K kk hK => ?_
            simp only [go_sem]
            refine hK _ _ fun nx => ?_; clear hK K; try clear kk
            refine awp_seq ?_
            refine awp_false (by first | exact congrArg PV.bool h19 | rfl) ?_
            refine awp_exit ?_; refine nmx ?_
            refine fragN ?_
            refine cut_id ?_
            refine ⟨_, (Option.some.inj hh), ?_⟩
            first | exact ⟨_, _, _, _, _, rfl⟩ | (simp only [diptychlaw5_Cell.pv_eq, api_Attr.pv_eq, api_Node.pv_eq, token_Token.pv_eq, piece_flat.pv_eq, place_Spot.pv_eq, diptychref4_Spot.pv_eq, pvL, List.map_cons, List.map_nil, List.map_append, rune1]; exact ⟨_, _, _, _, _, rfl⟩) | (simp only [diptychlaw5_Cell.pv_eq, api_Attr.pv_eq, api_Node.pv_eq, token_Token.pv_eq, piece_flat.pv_eq, place_Spot.pv_eq, diptychref4_Spot.pv_eq, pvL, List.map_cons, List.map_nil, List.map_append, rune1, h1, h19, h6]; exact ⟨_, _, _, _, _, rfl⟩)
          | cons y_11 suf ih =>
            intro pre v_6 l_7 hsplit hidx hh nx g1 g3
            rw [codec_Head_l0] at hh
            refine hI _ ?_
            obtain ⟨hl0a, hl0b, hl0d, hl0w, h19⟩ := walk_cons (f := api_Attr.pv) hsplit hidx hlen0
            refine awp_first fun K kk hK => ?_
            simp only [go_sem]
            refine hK _ _ fun nx => ?_; clear hK K; try clear kk
            refine awp_seq ?_
            refine awp_true (by first | exact congrArg PV.bool h19 | rfl) ?_
            refine awp_skip ?_; refine nmx ?_
            refine awp_seq ?_
            refine awp_block ?_
            refine awp_first fun K kk hK => ?_
            simp only [go_sem, hl0a, hl0b, hl0d, hl0w]
            refine hK _ _ fun nx => ?_; clear hK K; try clear kk
            obtain ⟨h20, hh⟩ := chk_some hh
            obtain ⟨quote_12, h21, hh⟩ := bind_ex hh
            obtain ⟨h22, hh⟩ := chk_some hh
            obtain ⟨l_13, h23, hh⟩ := bind_ex hh
            obtain ⟨h23a, h23c⟩ := app_some h23
            have h23d := app_map (f := PV.str) h23c
            have h23e := app_len h23c
            try simp only [List.length_cons, List.length_nil, Nat.zero_add, Nat.reduceAdd] at h23a h23e
            try simp only [h23e] at h23a
            try simp only [List.map_cons, List.map_nil, List.nil_append, List.append_nil, List.cons_append, List.singleton_append, rune1, diptychlaw5_Cell.pv_eq, api_Attr.pv_eq, api_Node.pv_eq, token_Token.pv_eq, piece_flat.pv_eq, place_Spot.pv_eq, diptychref4_Spot.pv_eq, pvL] at h23d
            refine awp_region fun K kk hK => ?_
            simp only [go_sem, h20, h22, h23a, h23d, h23e, hl0a, hl0b, hl0d, hl0w]
            (repeat refine sd ?_)
            refine step_call2 (codec_Quote_ok _ _ h21) (by (try simp only [go_sem, h20, h22, h23a, h23d, h23e, hl0a, hl0b, hl0d, hl0w]) <;> exact wkl) (by rfl) (by rfl) ?_
            simp only [go_sem, h20, h22, h23a, h23d, h23e, hl0a, hl0b, hl0d, hl0w]
            (repeat refine sd ?_)
            refine hK _ _ fun nx => ?_; clear hK K; try clear kk
            refine nmx ?_
            refine awp_region fun K kk hK => ?_
            simp only [go_sem, hl0a, hl0b, hl0d, hl0w]
            refine hK _ _ fun nx => ?_; clear hK K; try clear kk
            refine nmx ?_
            have ih' := ih (pre ++ [y_11]) (v_6 + 1) _ (by rw [hsplit]; simp) (by simp [hidx]) hh nx
            refine cut_id ?_
            first | exact ih' _ _ | (simp only [diptychlaw5_Cell.pv_eq, api_Attr.pv_eq, api_Node.pv_eq, token_Token.pv_eq, piece_flat.pv_eq, place_Spot.pv_eq, diptychref4_Spot.pv_eq, pvL, List.map_cons, List.map_nil, List.map_append, rune1, h23e] at ih' ⊢; exact ih' _ _) | (simp only [diptychlaw5_Cell.pv_eq, api_Attr.pv_eq, api_Node.pv_eq, token_Token.pv_eq, piece_flat.pv_eq, place_Spot.pv_eq, diptychref4_Spot.pv_eq, pvL, List.map_cons, List.map_nil, List.map_append, rune1, h23e, h1, h19, h6] at ih' ⊢; exact ih' _ _)
        exact key n_1.Attrs [] _ _ rfl rfl f0 _ _ _
      · rintro s ⟨t, hless, l_16, rfl, v_14, v_15, nx, g1, g3, rfl⟩
        try dsimp only at hh
        refine nmy ?_
        first | (refine cut_less hless ?_; try refine cut_awp ?_) | refine frag_less hless ?_ | refine body_less hless ?_
        obtain ⟨h24, hh⟩ := chk_some hh
        obtain ⟨join_17, h25, hh⟩ := bind_ex hh
        obtain ⟨h26, hh⟩ := chk_some hh
        obtain ⟨h27, hh⟩ := chk_some hh
        refine first_fact (.nrm 3 [some 1]) ?_
        refine awp_first fun K kk hK => ?_
        simp only [go_sem, h24, h26, h27]
        (repeat refine sd ?_)
        refine step_call2 (strings_Join_ok _ _ _ h25) (by (try simp only [go_sem, h24, h26, h27]) <;> exact wkl) (by rfl) (by rfl) ?_
        simp only [go_sem, h24, h26, h27]
        (repeat refine sd ?_)
        refine hK _ _ fun nx => ?_; clear hK K; try clear kk
        refine awp_ret ?_; refine nmx ?_
        obtain hR := Option.some.inj hh
        subst hR
        exact ret_p2
      · intro i s h; exact h.elim
      · intro s h; exact h.elim
theorem token_Of_grp : ∀ kr : Nat, (∀ (l_1 : (List api_Node)) (R : (List token_Token)), token_Of_k kr l_1 = some R → PC Tryd.prog 43 [.list 5 (l_1.map api_Node.pv)] (.own 3 (R.map token_Token.pv))) := by
  intro kr
  induction kr with
  | zero => exact (by intro l_1 R hh; rw [token_Of_k] at hh; cases hh)
  | succ kr ih =>
    have ih_token_Of := ih
    clear ih
    intro l_1 R hh
    rw [token_Of_k] at hh
    refine start_token_Of rfl ?_
    refine awp_first fun K kk hK => ?_
    simp only [go_sem]
    refine hK _ _ fun nx => ?_; clear hK K; try clear kk
    refine awp_first fun K kk hK => ?_
    simp only [go_sem]
    refine hK _ _ fun nx => ?_; clear hK K; try clear kk
    refine awp_seq ?_
    refine awp_first fun K kk hK => ?_
    simp only [go_sem]
    refine hK _ _ fun nx => ?_; clear hK K; try clear kk
    obtain ⟨e0, f0, hh⟩ := bind_ex hh
    obtain ⟨hlen0, f0⟩ := chk_some f0
    refine awp_fragE (CutTo (fun s => ∃ out_48, out_48 = e0 ∧ ∃ (v_46 : Int) (v_47 : Bool) (nx : Nat) (g3 : Nat), s = ⟨[(3, .row 3 g3 out_48.length), (8, .list 5 (l_1.map api_Node.pv)), (9, .int .i64 (l_1.length : Int)), (10, .int .i64 v_46), (11, .bool v_47)], [(3, g3, .row false 3 (out_48.map token_Token.pv))], nx⟩))
      (fun i s => False)
      (fun s => False) ?_ ?_ ?_ ?_
    · refine awp_block ?_
      refine awp_loopJ fun I hI => ?_
      have key : ∀ (suf pre : List api_Node) (v_16 : Int) (out_17 : (List token_Token)), l_1 = pre ++ suf → v_16 = (pre.length : Int) → token_Of_l0 (token_Of_k kr) suf v_16 out_17 = some e0 → ∀ (nx : Nat) (g3 : Nat), I ⟨[(3, .row 3 g3 out_17.length), (8, .list 5 (l_1.map api_Node.pv)), (9, .int .i64 (l_1.length : Int)), (10, .int .i64 v_16)], [(3, g3, .row false 3 (out_17.map token_Token.pv))], nx⟩ := by
        intro suf
        induction suf with
        | nil =>
          intro pre v_16 out_17 hsplit hidx hh nx g3
          rw [token_Of_l0] at hh
          refine hI _ ?_
          have h29 := walk_nil hsplit hidx
          refine awp_first fun K kk hK => ?_
          simp only [go_sem]
          refine hK _ _ fun nx => ?_; clear hK K; try clear kk
          refine awp_seq ?_
          refine awp_false (by first | exact congrArg PV.bool h29 | rfl) ?_
          refine awp_exit ?_; refine nmx ?_
          refine fragN ?_
          refine cut_id ?_
          refine ⟨_, (Option.some.inj hh), ?_⟩
          first | exact ⟨_, _, _, _, rfl⟩ | (simp only [diptychlaw5_Cell.pv_eq, api_Attr.pv_eq, api_Node.pv_eq, token_Token.pv_eq, piece_flat.pv_eq, place_Spot.pv_eq, diptychref4_Spot.pv_eq, pvL, List.map_cons, List.map_nil, List.map_append, rune1]; exact ⟨_, _, _, _, rfl⟩) | (simp only [diptychlaw5_Cell.pv_eq, api_Attr.pv_eq, api_Node.pv_eq, token_Token.pv_eq, piece_flat.pv_eq, place_Spot.pv_eq, diptychref4_Spot.pv_eq, pvL, List.map_cons, List.map_nil, List.map_append, rune1, h29]; exact ⟨_, _, _, _, rfl⟩)
        | cons y_32 suf ih =>
          intro pre v_16 out_17 hsplit hidx hh nx g3
          rw [token_Of_l0] at hh
          refine hI _ ?_
          obtain ⟨hl0a, hl0b, hl0d, hl0w, h29⟩ := walk_cons (f := api_Node.pv) hsplit hidx hlen0
          refine awp_first fun K kk hK => ?_
          simp only [go_sem]
          refine hK _ _ fun nx => ?_; clear hK K; try clear kk
          refine awp_seq ?_
          refine awp_true (by first | exact congrArg PV.bool h29 | rfl) ?_
          refine awp_skip ?_; refine nmx ?_
          refine awp_seq ?_
          refine awp_block ?_
          refine awp_first fun K kk hK => ?_
          simp only [go_sem, hl0a, hl0b, hl0d, hl0w]
          refine hK _ _ fun nx => ?_; clear hK K; try clear kk
          refine awp_seq ?_
          refine awp_first fun K kk hK => ?_
          simp only [go_sem, hl0a, hl0b, hl0d, hl0w]
          refine hK _ _ fun nx => ?_; clear hK K; try clear kk
          by_cases h30 : (y_32.Kind == ([116, 101, 120, 116] : Str)) = true
          · rw [if_pos h30] at hh
            refine awp_true (by first | exact congrArg PV.bool h30 | rfl) ?_
            refine awp_seq ?_
            refine awp_first fun K kk hK => ?_
            simp only [go_sem, hl0a, hl0b, hl0d, hl0w]
            refine hK _ _ fun nx => ?_; clear hK K; try clear kk
            obtain ⟨e7, f7, hh⟩ := bind_ex hh
            refine awp_fragE (CutTo (fun s => ∃ out_39, out_39 = e7 ∧ ∃ (v_40 : Nat) (nx : Nat) (g3 : Nat) (g5 : Nat) (g19 : Nat), s = ⟨[(3, .row 3 g3 out_39.length), (5, .box 5 g5 0), (8, .list 5 (l_1.map api_Node.pv)), (9, .int .i64 (l_1.length : Int)), (10, .int .i64 v_16), (19, .box 19 g19 0), (20, .tup [.bool false]), (21, .bool false)], [(3, g3, .row false 3 (out_39.map token_Token.pv)), (5, g5, .var 28 [.str y_32.Kind, .str y_32.Text, .list 1 (y_32.Marks.map PV.str), .list 2 (y_32.Attrs.map api_Attr.pv), .list 5 (y_32.Kids.map api_Node.pv)]), (19, g19, .iter y_32.Text v_40)], nx⟩))
              (fun i s => False)
              (fun s => False) ?_ ?_ ?_ ?_
            · refine awp_block ?_
              refine awp_loopJ fun I hI => ?_
              obtain ⟨k, f7⟩ := lim_some f7
              have key : ∀ (k : Nat) (out_35 : (List token_Token)) (v_36 : Nat), token_Of_l7 y_32 k out_35 v_36 = some e7 → ∀ (nx : Nat) (g3 : Nat) (g5 : Nat) (g19 : Nat), I ⟨[(3, .row 3 g3 out_35.length), (5, .box 5 g5 0), (8, .list 5 (l_1.map api_Node.pv)), (9, .int .i64 (l_1.length : Int)), (10, .int .i64 v_16), (19, .box 19 g19 0)], [(3, g3, .row false 3 (out_35.map token_Token.pv)), (5, g5, .var 28 [.str y_32.Kind, .str y_32.Text, .list 1 (y_32.Marks.map PV.str), .list 2 (y_32.Attrs.map api_Attr.pv), .list 5 (y_32.Kids.map api_Node.pv)]), (19, g19, .iter y_32.Text v_36)], nx⟩ := by
                intro k
                induction k with
                | zero => intro out_35 v_36 hh; rw [token_Of_l7] at hh; cases hh
                | succ k ih =>
                  intro out_35 v_36 hh nx g3 g5 g19
                  rw [token_Of_l7] at hh
                  refine hI _ ?_
                  refine awp_assoc ?_
                  refine awp_seq ?_
                  obtain ⟨e9, f9, hh⟩ := bind_ex hh
                  refine awp_frag (fun s => .inr () = e9 ∧ ∃ (nx : Nat) (g3 : Nat) (g5 : Nat) (g19 : Nat), s = ⟨[(3, .row 3 g3 out_35.length), (5, .box 5 g5 0), (8, .list 5 (l_1.map api_Node.pv)), (9, .int .i64 (l_1.length : Int)), (10, .int .i64 v_16), (19, .box 19 g19 0), (20, .tup [.bool true, .int .i64 (v_36 : Int), .int .i32 (runeAt y_32.Text v_36)]), (21, .bool true)], [(3, g3, .row false 3 (out_35.map token_Token.pv)), (5, g5, .var 28 [.str y_32.Kind, .str y_32.Text, .list 1 (y_32.Marks.map PV.str), .list 2 (y_32.Attrs.map api_Attr.pv), .list 5 (y_32.Kids.map api_Node.pv)]), (19, g19, .iter y_32.Text (v_36 + runeW y_32.Text v_36))], nx⟩)
                    (fun i s => (i = 2 ∧ .inl () = e9 ∧ ∃ (nx : Nat) (g3 : Nat) (g5 : Nat) (g19 : Nat), s = ⟨[(3, .row 3 g3 out_35.length), (5, .box 5 g5 0), (8, .list 5 (l_1.map api_Node.pv)), (9, .int .i64 (l_1.length : Int)), (10, .int .i64 v_16), (19, .box 19 g19 0), (20, .tup [.bool false]), (21, .bool false)], [(3, g3, .row false 3 (out_35.map token_Token.pv)), (5, g5, .var 28 [.str y_32.Kind, .str y_32.Text, .list 1 (y_32.Marks.map PV.str), .list 2 (y_32.Attrs.map api_Attr.pv), .list 5 (y_32.Kids.map api_Node.pv)]), (19, g19, .iter y_32.Text v_36)], nx⟩))
                    (fun s => False) ?_ ?_ ?_ ?_
                  · have hh := f9
                    by_cases h34 : (decide (v_36 < y_32.Text.length)) = true
                    · rw [if_pos h34] at hh
                      refine awp_first fun K kk hK => ?_
                      simp only [go_sem, h34, of_decide_eq_true h34, hl0a, hl0b, hl0d, hl0w]
                      (repeat refine sd ?_)
                      refine hK _ _ fun nx => ?_; clear hK K; try clear kk
                      refine awp_true rfl ?_
                      refine awp_skip ?_; refine nmx ?_
                      refine fragN ?_
                      refine cut_id ?_
                      refine ⟨(Option.some.inj hh), ?_⟩
                      first | exact ⟨_, _, _, _, rfl⟩ | (simp only [diptychlaw5_Cell.pv_eq, api_Attr.pv_eq, api_Node.pv_eq, token_Token.pv_eq, piece_flat.pv_eq, place_Spot.pv_eq, diptychref4_Spot.pv_eq, pvL, List.map_cons, List.map_nil, List.map_append, rune1]; exact ⟨_, _, _, _, rfl⟩) | (simp only [diptychlaw5_Cell.pv_eq, api_Attr.pv_eq, api_Node.pv_eq, token_Token.pv_eq, piece_flat.pv_eq, place_Spot.pv_eq, diptychref4_Spot.pv_eq, pvL, List.map_cons, List.map_nil, List.map_append, rune1, h29, h30, h34]; exact ⟨_, _, _, _, rfl⟩)
                    · rw [if_neg h34] at hh
                      replace h34 := Bool.eq_false_iff.mpr h34
                      refine awp_first fun K kk hK => ?_
                      simp only [go_sem, h34, of_decide_eq_false h34, hl0a, hl0b, hl0d, hl0w]
                      (repeat refine sd ?_)
                      refine hK _ _ fun nx => ?_; clear hK K; try clear kk
                      refine awp_false rfl ?_
                      refine awp_exit ?_; refine nmx ?_
                      refine fragE ⟨rfl, (Option.some.inj hh), ?_⟩
                      first | exact ⟨_, _, _, _, rfl⟩ | (simp only [diptychlaw5_Cell.pv_eq, api_Attr.pv_eq, api_Node.pv_eq, token_Token.pv_eq, piece_flat.pv_eq, place_Spot.pv_eq, diptychref4_Spot.pv_eq, pvL, List.map_cons, List.map_nil, List.map_append, rune1]; exact ⟨_, _, _, _, rfl⟩) | (simp only [diptychlaw5_Cell.pv_eq, api_Attr.pv_eq, api_Node.pv_eq, token_Token.pv_eq, piece_flat.pv_eq, place_Spot.pv_eq, diptychref4_Spot.pv_eq, pvL, List.map_cons, List.map_nil, List.map_append, rune1, h29, h30, h34]; exact ⟨_, _, _, _, rfl⟩)
                  · rintro s ⟨rfl, nx, g3, g5, g19, rfl⟩
                    try dsimp only at hh
                    refine awp_block ?_
                    refine awp_first fun K kk hK => ?_
                    simp only [go_sem, hl0a, hl0b, hl0d, hl0w]
                    refine hK _ _ fun nx => ?_; clear hK K; try clear kk
                    obtain ⟨head_37, h35, hh⟩ := bind_ex hh
                    obtain ⟨l_38, h36, hh⟩ := bind_ex hh
                    obtain ⟨h36a, h36c⟩ := app_some h36
                    have h36d := app_map (f := token_Token.pv) h36c
                    have h36e := app_len h36c
                    try simp only [List.length_cons, List.length_nil, Nat.zero_add, Nat.reduceAdd] at h36a h36e
                    try simp only [h36e] at h36a
                    try simp only [List.map_cons, List.map_nil, List.nil_append, List.append_nil, List.cons_append, List.singleton_append, rune1, diptychlaw5_Cell.pv_eq, api_Attr.pv_eq, api_Node.pv_eq, token_Token.pv_eq, piece_flat.pv_eq, place_Spot.pv_eq, diptychref4_Spot.pv_eq, pvL] at h36d
                    refine awp_region fun K kk hK => ?_
                    simp only [go_sem, h36a, h36d, h36e, hl0a, hl0b, hl0d, hl0w]
                    (repeat refine sd ?_)
                    refine step_call2 (codec_Head_ok _ _ h35) (by (try simp only [go_sem, h36a, h36d, h36e, hl0a, hl0b, hl0d, hl0w]) <;> exact wkl) (by rfl) (by rfl) ?_
                    simp only [go_sem, h36a, h36d, h36e, hl0a, hl0b, hl0d, hl0w]
                    (repeat refine sd ?_)
                    refine hK _ _ fun nx => ?_; clear hK K; try clear kk
                    refine nmx ?_
                    have ih' := ih _ _ hh nx
                    refine cut_id ?_
                    first | exact ih' _ _ _ | (simp only [diptychlaw5_Cell.pv_eq, api_Attr.pv_eq, api_Node.pv_eq, token_Token.pv_eq, piece_flat.pv_eq, place_Spot.pv_eq, diptychref4_Spot.pv_eq, pvL, List.map_cons, List.map_nil, List.map_append, rune1, h36e] at ih' ⊢; exact ih' _ _ _) | (simp only [diptychlaw5_Cell.pv_eq, api_Attr.pv_eq, api_Node.pv_eq, token_Token.pv_eq, piece_flat.pv_eq, place_Spot.pv_eq, diptychref4_Spot.pv_eq, pvL, List.map_cons, List.map_nil, List.map_append, rune1, h36e, h29, h30] at ih' ⊢; exact ih' _ _ _)
                  · intro i s h
                    obtain ⟨rfl, rfl, nx, g3, g5, g19, rfl⟩ := h
                    try dsimp only at hh
                    refine nmx ?_
                    refine fragN ?_
                    refine cut_id ?_
                    refine ⟨_, (Option.some.inj hh), ?_⟩
                    first | exact ⟨_, _, _, _, _, rfl⟩ | (simp only [diptychlaw5_Cell.pv_eq, api_Attr.pv_eq, api_Node.pv_eq, token_Token.pv_eq, piece_flat.pv_eq, place_Spot.pv_eq, diptychref4_Spot.pv_eq, pvL, List.map_cons, List.map_nil, List.map_append, rune1]; exact ⟨_, _, _, _, _, rfl⟩) | (simp only [diptychlaw5_Cell.pv_eq, api_Attr.pv_eq, api_Node.pv_eq, token_Token.pv_eq, piece_flat.pv_eq, place_Spot.pv_eq, diptychref4_Spot.pv_eq, pvL, List.map_cons, List.map_nil, List.map_append, rune1, h29, h30]; exact ⟨_, _, _, _, _, rfl⟩)
                  · intro s h; exact h.elim
              exact key _ _ _ f7 _ _ _ _
            · rintro s ⟨t, hless, out_39, rfl, v_40, nx, g3, g5, g19, rfl⟩
              try dsimp only at hh
              refine nmy ?_
              first | (refine cut_less hless ?_; try refine cut_awp ?_) | refine frag_less hless ?_ | refine body_less hless ?_
              refine awp_exit ?_; refine nmx ?_
              refine awp_region fun K kk hK => ?_
              simp only [go_sem, hl0a, hl0b, hl0d, hl0w]
              refine hK _ _ fun nx => ?_; clear hK K; try clear kk
              refine nmx ?_
              have ih' := ih (pre ++ [y_32]) (v_16 + 1) _ (by rw [hsplit]; simp) (by simp [hidx]) hh nx
              refine cut_id ?_
              first | exact ih' _ | (simp only [diptychlaw5_Cell.pv_eq, api_Attr.pv_eq, api_Node.pv_eq, token_Token.pv_eq, piece_flat.pv_eq, place_Spot.pv_eq, diptychref4_Spot.pv_eq, pvL, List.map_cons, List.map_nil, List.map_append, rune1] at ih' ⊢; exact ih' _) | (simp only [diptychlaw5_Cell.pv_eq, api_Attr.pv_eq, api_Node.pv_eq, token_Token.pv_eq, piece_flat.pv_eq, place_Spot.pv_eq, diptychref4_Spot.pv_eq, pvL, List.map_cons, List.map_nil, List.map_append, rune1, h29, h30] at ih' ⊢; exact ih' _)
            · intro i s h; exact h.elim
            · intro s h; exact h.elim
          · rw [if_neg h30] at hh
            replace h30 := Bool.eq_false_iff.mpr h30
            refine awp_false (by first | exact congrArg PV.bool h30 | rfl) ?_
            refine awp_skip ?_; refine nmx ?_
            obtain ⟨head_41, h37, hh⟩ := bind_ex hh
            obtain ⟨l_42, h38, hh⟩ := bind_ex hh
            obtain ⟨h38a, h38c⟩ := app_some h38
            have h38d := app_map (f := token_Token.pv) h38c
            have h38e := app_len h38c
            try simp only [List.length_cons, List.length_nil, Nat.zero_add, Nat.reduceAdd] at h38a h38e
            try simp only [h38e] at h38a
            try simp only [List.map_cons, List.map_nil, List.nil_append, List.append_nil, List.cons_append, List.singleton_append, rune1, diptychlaw5_Cell.pv_eq, api_Attr.pv_eq, api_Node.pv_eq, token_Token.pv_eq, piece_flat.pv_eq, place_Spot.pv_eq, diptychref4_Spot.pv_eq, pvL] at h38d
            refine awp_first fun K kk hK => ?_
            simp only [go_sem, h38a, h38d, h38e, hl0a, hl0b, hl0d, hl0w]
            (repeat refine sd ?_)
            refine step_call2 (codec_Head_ok _ _ h37) (by (try simp only [go_sem, h38a, h38d, h38e, hl0a, hl0b, hl0d, hl0w]) <;> exact wkl) (by rfl) (by rfl) ?_
            simp only [go_sem, h38a, h38d, h38e, hl0a, hl0b, hl0d, hl0w]
            (repeat refine sd ?_)
            refine hK _ _ fun nx => ?_; clear hK K; try clear kk
            obtain ⟨of_43, h39, hh⟩ := bind_ex hh
            obtain ⟨l_44, h40, hh⟩ := bind_ex hh
            obtain ⟨h40a, h40c⟩ := app_some h40
            have h40d := app_map (f := token_Token.pv) h40c
            have h40e := app_len h40c
            try simp only [List.length_cons, List.length_nil, Nat.zero_add, Nat.reduceAdd] at h40a h40e
            try simp only [h40e] at h40a
            try simp only [List.map_cons, List.map_nil, List.nil_append, List.append_nil, List.cons_append, List.singleton_append, rune1, diptychlaw5_Cell.pv_eq, api_Attr.pv_eq, api_Node.pv_eq, token_Token.pv_eq, piece_flat.pv_eq, place_Spot.pv_eq, diptychref4_Spot.pv_eq, pvL] at h40d
            refine awp_first fun K kk hK => ?_
            simp only [go_sem, h40a, h40d, h40e, hl0a, hl0b, hl0d, hl0w]
            (repeat refine sd ?_)
            refine step_call2 (ih_token_Of _ _ h39).list (by (try simp only [go_sem, h40a, h40d, h40e, hl0a, hl0b, hl0d, hl0w]) <;> exact wkl) (by rfl) (by rfl) ?_
            simp only [go_sem, h40a, h40d, h40e, hl0a, hl0b, hl0d, hl0w]
            (repeat refine sd ?_)
            refine hK _ _ fun nx => ?_; clear hK K; try clear kk
            obtain ⟨l_45, h41, hh⟩ := bind_ex hh
            obtain ⟨h41a, h41c⟩ := app_some h41
            have h41d := app_map (f := token_Token.pv) h41c
            have h41e := app_len h41c
            try simp only [List.length_cons, List.length_nil, Nat.zero_add, Nat.reduceAdd] at h41a h41e
            try simp only [h41e] at h41a
            try simp only [List.map_cons, List.map_nil, List.nil_append, List.append_nil, List.cons_append, List.singleton_append, rune1, diptychlaw5_Cell.pv_eq, api_Attr.pv_eq, api_Node.pv_eq, token_Token.pv_eq, piece_flat.pv_eq, place_Spot.pv_eq, diptychref4_Spot.pv_eq, pvL] at h41d
            refine awp_region fun K kk hK => ?_
            simp only [go_sem, h41a, h41d, h41e, hl0a, hl0b, hl0d, hl0w]
            (repeat refine sd ?_)
            refine hK _ _ fun nx => ?_; clear hK K; try clear kk
            refine nmx ?_
            refine awp_region fun K kk hK => ?_
            simp only [go_sem, hl0a, hl0b, hl0d, hl0w]
            refine hK _ _ fun nx => ?_; clear hK K; try clear kk
            refine nmx ?_
            have ih' := ih (pre ++ [y_32]) (v_16 + 1) _ (by rw [hsplit]; simp) (by simp [hidx]) hh nx
            refine cut_id ?_
            first | exact ih' _ | (simp only [diptychlaw5_Cell.pv_eq, api_Attr.pv_eq, api_Node.pv_eq, token_Token.pv_eq, piece_flat.pv_eq, place_Spot.pv_eq, diptychref4_Spot.pv_eq, pvL, List.map_cons, List.map_nil, List.map_append, rune1, h38e, h40e, h41e] at ih' ⊢; exact ih' _) | (simp only [diptychlaw5_Cell.pv_eq, api_Attr.pv_eq, api_Node.pv_eq, token_Token.pv_eq, piece_flat.pv_eq, place_Spot.pv_eq, diptychref4_Spot.pv_eq, pvL, List.map_cons, List.map_nil, List.map_append, rune1, h38e, h40e, h41e, h29, h30] at ih' ⊢; exact ih' _)
      exact key l_1 [] _ _ rfl rfl f0 _ _
    · rintro s ⟨t, hless, out_48, rfl, v_46, v_47, nx, g3, rfl⟩
      try dsimp only at hh
      refine nmy ?_
      first | (refine cut_less hless ?_; try refine cut_awp ?_) | refine frag_less hless ?_ | refine body_less hless ?_
      refine awp_first fun K kk hK => ?_
      simp only [go_sem]
      refine hK _ _ fun nx => ?_; clear hK K; try clear kk
      refine awp_ret ?_; refine nmx ?_
      obtain hR := Option.some.inj hh
      subst hR
      exact ret_own (by rfl) (by rfl) (by rfl) (by simp only [List.length_map, List.length_cons, List.length_nil, Nat.zero_add, Nat.reduceAdd]) (by first | rfl | (simp only [diptychlaw5_Cell.pv_eq, api_Attr.pv_eq, api_Node.pv_eq, token_Token.pv_eq, piece_flat.pv_eq, place_Spot.pv_eq, diptychref4_Spot.pv_eq, pvL, List.map_cons, List.map_nil, List.map_append, rune1]; done) | (simp only [diptychlaw5_Cell.pv_eq, api_Attr.pv_eq, api_Node.pv_eq, token_Token.pv_eq, piece_flat.pv_eq, place_Spot.pv_eq, diptychref4_Spot.pv_eq, pvL, List.map_cons, List.map_nil, List.map_append, rune1]; rfl))
    · intro i s h; exact h.elim
    · intro s h; exact h.elim
theorem token_Of_ok (l_1 : (List api_Node)) (R : (List token_Token)) (hh : token_Of l_1 = some R) : PC Tryd.prog 43 [.list 5 (l_1.map api_Node.pv)] (.own 3 (R.map token_Token.pv)) := by
  rw [token_Of] at hh
  obtain ⟨kr, hh⟩ := lim_some hh
  exact (token_Of_grp kr) _ _ hh
theorem diptychlaw5_PieceTokens_ok (l_1 : (List diptychlaw5_Cell)) (k_2 : (List diptychlaw5_Cell)) (from_3 : Int) (to_4 : Int) (R : Bool) (hh : diptychlaw5_PieceTokens l_1 k_2 from_3 to_4 = some R) : PC Tryd.prog 12 [.list 3 (l_1.map diptychlaw5_Cell.pv), .list 3 (k_2.map diptychlaw5_Cell.pv), .int .i64 from_3, .int .i64 to_4] (.bool R) := by
  rw [diptychlaw5_PieceTokens] at hh
  refine start_diptychlaw5_PieceTokens rfl ?_
  refine awp_first fun K kk hK => ?_
  simp only [go_sem]
  refine hK _ _ fun nx => ?_; clear hK K; try clear kk
  obtain ⟨shown_5, h1, hh⟩ := bind_ex hh
  refine awp_first fun K kk hK => ?_
  simp only [go_sem]
  refine step_call2 (diptychlaw5_shown_ok _ h1) (by (try simp only [go_sem]) <;> exact wkl) (by rfl) (by rfl) ?_
  simp only [go_sem]
  refine hK _ _ fun nx => ?_; clear hK K; try clear kk
  refine awp_seq ?_
  refine awp_first fun K kk hK => ?_
  simp only [go_sem]
  refine hK _ _ fun nx => ?_; clear hK K; try clear kk
  by_cases h2 : (!shown_5) = true
  · rw [if_pos h2] at hh
    refine awp_true (by first | exact congrArg PV.bool h2 | rfl) ?_
    refine awp_first fun K kk hK => ?_
    simp only [go_sem]
    refine hK _ _ fun nx => ?_; clear hK K; try clear kk
    refine awp_ret ?_; refine nmx ?_
    obtain hR := Option.some.inj hh
    subst hR
    exact ret_p2
  · rw [if_neg h2] at hh
    replace h2 := Bool.eq_false_iff.mpr h2
    refine awp_false (by first | exact congrArg PV.bool h2 | rfl) ?_
    refine awp_skip ?_; refine nmx ?_
    obtain ⟨doc_6, h3, hh⟩ := bind_ex hh
    refine awp_first fun K kk hK => ?_
    simp only [go_sem]
    refine step_call2 (diptychlaw5_doc_ok _ _ h3) (by (try simp only [go_sem]) <;> exact wkl) (by rfl) (by rfl) ?_
    simp only [go_sem]
    refine hK _ _ fun nx => ?_; clear hK K; try clear kk
    obtain ⟨⟨r_7, r_8⟩, h4, hh⟩ := bind_ex hh
    dsimp only at hh
    refine awp_first fun K kk hK => ?_
    simp only [go_sem]
    refine step_call2 (diptychlaw5_flat_ok _ _ _ _ h4) (by (try simp only [go_sem]) <;> exact wkl) (by rfl) (by rfl) ?_
    simp only [go_sem]
    refine hK _ _ fun nx => ?_; clear hK K; try clear kk
    obtain ⟨made_9, h5, hh⟩ := bind_ex hh
    refine awp_first fun K kk hK => ?_
    simp only [go_sem]
    refine step_call2 (diptychlaw5_made_ok _ _ h5) (by (try simp only [go_sem]) <;> exact wkl) (by rfl) (by rfl) ?_
    simp only [go_sem]
    refine hK _ _ fun nx => ?_; clear hK K; try clear kk
    obtain ⟨⟨r_10, r_11⟩, h6, hh⟩ := bind_ex hh
    dsimp only at hh
    refine awp_first fun K kk hK => ?_
    simp only [go_sem]
    refine step_call2 (piece_Put_ok _ _ _ _ _ h6) (by (try simp only [go_sem]) <;> exact wkl) (by rfl) (by rfl) ?_
    simp only [go_sem]
    refine hK _ _ fun nx => ?_; clear hK K; try clear kk
    refine awp_seq ?_
    refine awp_first fun K kk hK => ?_
    simp only [go_sem]
    refine hK _ _ fun nx => ?_; clear hK K; try clear kk
    by_cases h7 : (r_11 != (0 : Int)) = true
    · rw [if_pos h7] at hh
      refine awp_true (by first | exact congrArg PV.bool h7 | rfl) ?_
      refine awp_first fun K kk hK => ?_
      simp only [go_sem]
      refine hK _ _ fun nx => ?_; clear hK K; try clear kk
      refine awp_ret ?_; refine nmx ?_
      obtain hR := Option.some.inj hh
      subst hR
      exact ret_p2
    · rw [if_neg h7] at hh
      replace h7 := Bool.eq_false_iff.mpr h7
      refine awp_false (by first | exact congrArg PV.bool h7 | rfl) ?_
      refine awp_skip ?_; refine nmx ?_
      obtain ⟨of_12, h8, hh⟩ := bind_ex hh
      refine awp_first fun K kk hK => ?_
      simp only [go_sem]
      refine step_call2 (token_Of_ok _ _ h8).list (by (try simp only [go_sem]) <;> exact wkl) (by rfl) (by rfl) ?_
      simp only [go_sem]
      refine hK _ _ fun nx => ?_; clear hK K; try clear kk
      obtain ⟨of_13, h9, hh⟩ := bind_ex hh
      refine awp_first fun K kk hK => ?_
      simp only [go_sem]
      refine step_call2 (token_Of_ok _ _ h9).list (by (try simp only [go_sem]) <;> exact wkl) (by rfl) (by rfl) ?_
      simp only [go_sem]
      refine hK _ _ fun nx => ?_; clear hK K; try clear kk
      obtain ⟨of_14, h10, hh⟩ := bind_ex hh
      refine awp_first fun K kk hK => ?_
      simp only [go_sem]
      refine step_call2 (token_Of_ok _ _ h10).list (by (try simp only [go_sem]) <;> exact wkl) (by rfl) (by rfl) ?_
      simp only [go_sem]
      refine hK _ _ fun nx => ?_; clear hK K; try clear kk
      refine awp_seq ?_
      refine awp_first fun K kk hK => ?_
      simp only [go_sem]
      refine hK _ _ fun nx => ?_; clear hK K; try clear kk
      by_cases h11 : ((of_13.length : Int) != (w64 ((w64 ((of_12.length : Int) - (w64 (r_8 - r_7)))) + (of_14.length : Int)))) = true
      · rw [if_pos h11] at hh
        refine awp_true (by first | exact congrArg PV.bool h11 | rfl) ?_
        refine awp_first fun K kk hK => ?_
        simp only [go_sem]
        refine hK _ _ fun nx => ?_; clear hK K; try clear kk
        refine awp_ret ?_; refine nmx ?_
        obtain hR := Option.some.inj hh
        subst hR
        exact ret_p2
      · rw [if_neg h11] at hh
        replace h11 := Bool.eq_false_iff.mpr h11
        refine awp_false (by first | exact congrArg PV.bool h11 | rfl) ?_
        refine awp_skip ?_; refine nmx ?_
        refine awp_seq ?_
        refine awp_first fun K kk hK => ?_
        simp only [go_sem]
        refine hK _ _ fun nx => ?_; clear hK K; try clear kk
        obtain ⟨e0, f0, hh⟩ := bind_ex hh
        obtain ⟨hlen0, f0⟩ := chk_some f0
        refine awp_fragE (CutTo (fun s => .inr () = e0 ∧ ∃ (i_32 : Int) (v_33 : Bool) (nx : Nat), s = ⟨[(11, .int .i64 r_7), (12, .int .i64 r_8), (16, .list 3 (of_12.map token_Token.pv)), (17, .list 3 (of_13.map token_Token.pv)), (18, .list 3 (of_14.map token_Token.pv)), (19, .int .i64 i_32), (68, .bool v_33)], [], nx⟩))
          (fun i s => False)
          (fun s => ∃ res_31, .inl res_31 = e0 ∧ bodyR Tryd.prog [.tmp 8] (.bool res_31) [] .ret s) ?_ ?_ ?_ ?_
        · refine awp_block ?_
          refine awp_loopJ fun I hI => ?_
          have key : ∀ (suf pre : List token_Token) (i_20 : Int), of_13 = pre ++ suf → i_20 = (pre.length : Int) → diptychlaw5_PieceTokens_l0 r_7 r_8 of_12 of_14 suf i_20 = some e0 → ∀ (nx : Nat), I ⟨[(11, .int .i64 r_7), (12, .int .i64 r_8), (16, .list 3 (of_12.map token_Token.pv)), (17, .list 3 (of_13.map token_Token.pv)), (18, .list 3 (of_14.map token_Token.pv)), (19, .int .i64 i_20)], [], nx⟩ := by
            intro suf
            induction suf with
            | nil =>
              intro pre i_20 hsplit hidx hh nx
              rw [diptychlaw5_PieceTokens_l0] at hh
              refine hI _ ?_
              have h28 := walk_nil hsplit hidx
              refine awp_seq ?_
              refine awp_first fun K kk hK => ?_
              simp only [go_sem]
              refine hK _ _ fun nx => ?_; clear hK K; try clear kk
              refine awp_false (by first | exact congrArg PV.bool h28 | rfl) ?_
              refine awp_exit ?_; refine nmx ?_
              refine fragN ?_
              refine cut_id ?_
              refine ⟨(Option.some.inj hh), ?_⟩
              first | exact ⟨_, _, _, rfl⟩ | (simp only [diptychlaw5_Cell.pv_eq, api_Attr.pv_eq, api_Node.pv_eq, token_Token.pv_eq, piece_flat.pv_eq, place_Spot.pv_eq, diptychref4_Spot.pv_eq, pvL, List.map_cons, List.map_nil, List.map_append, rune1]; exact ⟨_, _, _, rfl⟩) | (simp only [diptychlaw5_Cell.pv_eq, api_Attr.pv_eq, api_Node.pv_eq, token_Token.pv_eq, piece_flat.pv_eq, place_Spot.pv_eq, diptychref4_Spot.pv_eq, pvL, List.map_cons, List.map_nil, List.map_append, rune1, h11, h2, h28, h7]; exact ⟨_, _, _, rfl⟩)
            | cons y_26 suf ih =>
              intro pre i_20 hsplit hidx hh nx
              rw [diptychlaw5_PieceTokens_l0] at hh
              refine hI _ ?_
              obtain ⟨hl0a, hl0b, hl0d, hl0w, h28⟩ := walk_cons (f := token_Token.pv) hsplit hidx hlen0
              refine awp_seq ?_
              refine awp_first fun K kk hK => ?_
              simp only [go_sem]
              refine hK _ _ fun nx => ?_; clear hK K; try clear kk
              refine awp_true (by first | exact congrArg PV.bool h28 | rfl) ?_
              refine awp_skip ?_; refine nmx ?_
              refine awp_seq ?_
              refine awp_block ?_
              refine awp_first fun K kk hK => ?_
              simp only [go_sem, hl0a, hl0b, hl0d, hl0w]
              refine hK _ _ fun nx => ?_; clear hK K; try clear kk
              refine awp_seq ?_
              obtain ⟨e3, f3, hh⟩ := bind_ex hh
              refine awp_frag (fun s => ∃ w_30, w_30 = e3 ∧ ∃ (nx : Nat) (g20 : Nat), s = ⟨[(11, .int .i64 r_7), (12, .int .i64 r_8), (16, .list 3 (of_12.map token_Token.pv)), (17, .list 3 (of_13.map token_Token.pv)), (18, .list 3 (of_14.map token_Token.pv)), (19, .int .i64 i_20), (20, .box 20 g20 0)], [(20, g20, .var 84 [.int .u8 w_30.Kind, .str w_30.Text, .str w_30.Head])], nx⟩)
                (fun i s => False)
                (fun s => False) ?_ ?_ ?_ ?_
              · have hh := f3
                refine awp_first fun K kk hK => ?_
                simp only [go_sem, hl0a, hl0b, hl0d, hl0w]
                refine hK _ _ fun nx => ?_; clear hK K; try clear kk
                by_cases h29 : (decide (i_20 < r_7)) = true
                · rw [if_pos h29] at hh
                  refine awp_true (by first | exact congrArg PV.bool h29 | rfl) ?_
                  obtain ⟨x_27, h30, hh⟩ := bind_ex hh
                  obtain ⟨h30a, h30b, h30c⟩ := rd_some h30
                  have h30d := rd_get (f := token_Token.pv) h30c
                  have h30f := rd_more (f := token_Token.pv) h30c
                  try simp only [Int.toNat_natCast, Int.reduceToNat] at h30d h30f
                  refine awp_region fun K kk hK => ?_
                  simp only [go_sem, h30a, h30b, h30d, h30f.1, h30f.2, hl0a, hl0b, hl0d, hl0w]
                  (repeat refine sd ?_)
                  refine hK _ _ fun nx => ?_; clear hK K; try clear kk
                  refine nmx ?_
                  refine fragN ?_
                  refine cut_id ?_
                  refine ⟨_, (Option.some.inj hh), ?_⟩
                  first | exact ⟨_, _, rfl⟩ | (simp only [diptychlaw5_Cell.pv_eq, api_Attr.pv_eq, api_Node.pv_eq, token_Token.pv_eq, piece_flat.pv_eq, place_Spot.pv_eq, diptychref4_Spot.pv_eq, pvL, List.map_cons, List.map_nil, List.map_append, rune1]; exact ⟨_, _, rfl⟩) | (simp only [diptychlaw5_Cell.pv_eq, api_Attr.pv_eq, api_Node.pv_eq, token_Token.pv_eq, piece_flat.pv_eq, place_Spot.pv_eq, diptychref4_Spot.pv_eq, pvL, List.map_cons, List.map_nil, List.map_append, rune1, h11, h2, h28, h29, h7]; exact ⟨_, _, rfl⟩)
                · rw [if_neg h29] at hh
                  replace h29 := Bool.eq_false_iff.mpr h29
                  refine awp_false (by first | exact congrArg PV.bool h29 | rfl) ?_
                  refine awp_first fun K kk hK => ?_
                  simp only [go_sem, hl0a, hl0b, hl0d, hl0w]
                  refine hK _ _ fun nx => ?_; clear hK K; try clear kk
                  by_cases h31 : (decide (i_20 < (w64 (r_7 + (of_14.length : Int))))) = true
                  · rw [if_pos h31] at hh
                    refine awp_true (by first | exact congrArg PV.bool h31 | rfl) ?_
                    obtain ⟨x_28, h32, hh⟩ := bind_ex hh
                    obtain ⟨h32a, h32b, h32c⟩ := rd_some h32
                    have h32d := rd_get (f := token_Token.pv) h32c
                    have h32f := rd_more (f := token_Token.pv) h32c
                    try simp only [Int.toNat_natCast, Int.reduceToNat] at h32d h32f
                    refine awp_region fun K kk hK => ?_
                    simp only [go_sem, h32a, h32b, h32d, h32f.1, h32f.2, hl0a, hl0b, hl0d, hl0w]
                    (repeat refine sd ?_)
                    refine hK _ _ fun nx => ?_; clear hK K; try clear kk
                    refine nmx ?_
                    refine fragN ?_
                    refine cut_id ?_
                    refine ⟨_, (Option.some.inj hh), ?_⟩
                    first | exact ⟨_, _, rfl⟩ | (simp only [diptychlaw5_Cell.pv_eq, api_Attr.pv_eq, api_Node.pv_eq, token_Token.pv_eq, piece_flat.pv_eq, place_Spot.pv_eq, diptychref4_Spot.pv_eq, pvL, List.map_cons, List.map_nil, List.map_append, rune1]; exact ⟨_, _, rfl⟩) | (simp only [diptychlaw5_Cell.pv_eq, api_Attr.pv_eq, api_Node.pv_eq, token_Token.pv_eq, piece_flat.pv_eq, place_Spot.pv_eq, diptychref4_Spot.pv_eq, pvL, List.map_cons, List.map_nil, List.map_append, rune1, h11, h2, h28, h29, h31, h7]; exact ⟨_, _, rfl⟩)
                  · rw [if_neg h31] at hh
                    replace h31 := Bool.eq_false_iff.mpr h31
                    refine awp_false (by first | exact congrArg PV.bool h31 | rfl) ?_
                    obtain ⟨x_29, h33, hh⟩ := bind_ex hh
                    obtain ⟨h33a, h33b, h33c⟩ := rd_some h33
                    have h33d := rd_get (f := token_Token.pv) h33c
                    have h33f := rd_more (f := token_Token.pv) h33c
                    try simp only [Int.toNat_natCast, Int.reduceToNat] at h33d h33f
                    refine awp_region fun K kk hK => ?_
                    simp only [go_sem, h33a, h33b, h33d, h33f.1, h33f.2, hl0a, hl0b, hl0d, hl0w]
                    (repeat refine sd ?_)
                    refine hK _ _ fun nx => ?_; clear hK K; try clear kk
                    refine nmx ?_
                    refine fragN ?_
                    refine cut_id ?_
                    refine ⟨_, (Option.some.inj hh), ?_⟩
                    first | exact ⟨_, _, rfl⟩ | (simp only [diptychlaw5_Cell.pv_eq, api_Attr.pv_eq, api_Node.pv_eq, token_Token.pv_eq, piece_flat.pv_eq, place_Spot.pv_eq, diptychref4_Spot.pv_eq, pvL, List.map_cons, List.map_nil, List.map_append, rune1]; exact ⟨_, _, rfl⟩) | (simp only [diptychlaw5_Cell.pv_eq, api_Attr.pv_eq, api_Node.pv_eq, token_Token.pv_eq, piece_flat.pv_eq, place_Spot.pv_eq, diptychref4_Spot.pv_eq, pvL, List.map_cons, List.map_nil, List.map_append, rune1, h11, h2, h28, h29, h31, h7]; exact ⟨_, _, rfl⟩)
              · rintro s ⟨w_30, rfl, nx, g20, rfl⟩
                try dsimp only at hh
                refine awp_first fun K kk hK => ?_
                simp only [go_sem, hl0a, hl0b, hl0d, hl0w]
                refine hK _ _ fun nx => ?_; clear hK K; try clear kk
                by_cases h34 : ((((w_30.Kind == y_26.Kind) && ((w_30.Text == y_26.Text) && (w_30.Head == y_26.Head))) != true)) = true
                · rw [if_pos h34] at hh
                  refine awp_true (by first | exact congrArg PV.bool h34 | rfl) ?_
                  refine awp_first fun K kk hK => ?_
                  simp only [go_sem, hl0a, hl0b, hl0d, hl0w]
                  refine hK _ _ fun nx => ?_; clear hK K; try clear kk
                  refine awp_ret ?_; refine nmx ?_
                  refine fragR ⟨_, (Option.some.inj hh), ?_⟩
                  exact ret_p2
                · rw [if_neg h34] at hh
                  replace h34 := Bool.eq_false_iff.mpr h34
                  refine awp_false (by first | exact congrArg PV.bool h34 | rfl) ?_
                  refine awp_skip ?_; refine nmx ?_
                  refine awp_region fun K kk hK => ?_
                  simp only [go_sem, hl0a, hl0b, hl0d, hl0w]
                  refine hK _ _ fun nx => ?_; clear hK K; try clear kk
                  refine nmx ?_
                  have ih' := ih (pre ++ [y_26]) (i_20 + 1) (by rw [hsplit]; simp) (by simp [hidx]) hh nx
                  refine cut_id ?_
                  first | exact ih' | (simp only [diptychlaw5_Cell.pv_eq, api_Attr.pv_eq, api_Node.pv_eq, token_Token.pv_eq, piece_flat.pv_eq, place_Spot.pv_eq, diptychref4_Spot.pv_eq, pvL, List.map_cons, List.map_nil, List.map_append, rune1] at ih' ⊢; exact ih') | (simp only [diptychlaw5_Cell.pv_eq, api_Attr.pv_eq, api_Node.pv_eq, token_Token.pv_eq, piece_flat.pv_eq, place_Spot.pv_eq, diptychref4_Spot.pv_eq, pvL, List.map_cons, List.map_nil, List.map_append, rune1, h11, h2, h28, h34, h7] at ih' ⊢; exact ih')
              · intro i s h; exact h.elim
              · intro s h; exact h.elim
          exact key of_13 [] _ rfl rfl f0 _
        · rintro s ⟨t, hless, rfl, i_32, v_33, nx, rfl⟩
          try dsimp only at hh
          refine nmy ?_
          first | (refine cut_less hless ?_; try refine cut_awp ?_) | refine frag_less hless ?_ | refine body_less hless ?_
          refine awp_first fun K kk hK => ?_
          simp only [go_sem]
          refine hK _ _ fun nx => ?_; clear hK K; try clear kk
          refine awp_ret ?_; refine nmx ?_
          obtain hR := Option.some.inj hh
          subst hR
          exact ret_p2
        · intro i s h; exact h.elim
        · rintro s ⟨res_31, rfl, hb⟩
          try dsimp only at hh
          obtain hR := Option.some.inj hh
          subst hR
          refine nmx ?_
          exact hb

end Go.Proofs.YtblielhogcnnkaaDoor
