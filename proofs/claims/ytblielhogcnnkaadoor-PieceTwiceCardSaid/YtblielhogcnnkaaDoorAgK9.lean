/- What the functions answer, the program answers (9). -/
import Derived.Test.YtblielhogcnnkaaDoorAgC
import Derived.Test.YtblielhogcnnkaaDoorAgF
import Derived.Test.YtblielhogcnnkaaDoorAgK0
import Derived.Test.YtblielhogcnnkaaDoorAgK3
import Derived.Test.YtblielhogcnnkaaDoorAgK5
import Derived.Test.YtblielhogcnnkaaDoorAgK6
import Derived.Test.YtblielhogcnnkaaDoorAgK8
namespace Go.Proofs.YtblielhogcnnkaaDoor
set_option linter.unusedSimpArgs false
set_option linter.unusedVariables false
open Go
set_option maxRecDepth 100000

theorem diptychlaw5_PieceTokens_ok (l_1 : (List diptychlaw5_Cell)) (k_2 : (List diptychlaw5_Cell)) (from_3 : Int) (to_4 : Int) (R : Bool) (hh : diptychlaw5_PieceTokens l_1 k_2 from_3 to_4 = some R) : PC Tryd.prog 12 [.list 3 (l_1.map diptychlaw5_Cell.pv), .list 3 (k_2.map diptychlaw5_Cell.pv), .int .i64 from_3, .int .i64 to_4] (.bool R) := by
  rw [diptychlaw5_PieceTokens] at hh
  refine start_diptychlaw5_PieceTokens rfl ?_
  refine awp_first fun K kk hK => ?_
  simp only [go_sem]
  refine hK _ _ fun nx => ?_; clear hK K; try clear kk
  obtain ⟨shown_5, h1, hh⟩ := bind_ex hh
  refine awp_first fun K kk hK => ?_
  simp only [go_sem]
  refine step_call2 (diptychlaw5_shown_ok _ h1) (by (try simp only [go_sem]) <;> exact wkl) (by rfl) (by rfl) ?_
  simp only [go_sem]
  refine hK _ _ fun nx => ?_; clear hK K; try clear kk
  refine awp_seq ?_
  refine awp_first fun K kk hK => ?_
  simp only [go_sem]
  refine hK _ _ fun nx => ?_; clear hK K; try clear kk
  by_cases h2 : (!shown_5) = true
  · rw [if_pos h2] at hh
    refine awp_true (by first | exact congrArg PV.bool h2 | rfl) ?_
    refine awp_first fun K kk hK => ?_
    simp only [go_sem]
    refine hK _ _ fun nx => ?_; clear hK K; try clear kk
    refine awp_ret ?_; refine nmx ?_
    obtain hR := Option.some.inj hh
    subst hR
    exact ret_p2
  · rw [if_neg h2] at hh
    replace h2 := Bool.eq_false_iff.mpr h2
    refine awp_false (by first | exact congrArg PV.bool h2 | rfl) ?_
    refine awp_skip ?_; refine nmx ?_
    obtain ⟨doc_6, h3, hh⟩ := bind_ex hh
    refine awp_first fun K kk hK => ?_
    simp only [go_sem]
    refine step_call2 (diptychlaw5_doc_ok _ _ h3) (by (try simp only [go_sem]) <;> exact wkl) (by rfl) (by rfl) ?_
    simp only [go_sem]
    refine hK _ _ fun nx => ?_; clear hK K; try clear kk
    obtain ⟨⟨r_7, r_8⟩, h4, hh⟩ := bind_ex hh
    dsimp only at hh
    refine awp_first fun K kk hK => ?_
    simp only [go_sem]
    refine step_call2 (diptychlaw5_flat_ok _ _ _ _ h4) (by (try simp only [go_sem]) <;> exact wkl) (by rfl) (by rfl) ?_
    simp only [go_sem]
    refine hK _ _ fun nx => ?_; clear hK K; try clear kk
    obtain ⟨made_9, h5, hh⟩ := bind_ex hh
    refine awp_first fun K kk hK => ?_
    simp only [go_sem]
    refine step_call2 (diptychlaw5_made_ok _ _ h5) (by (try simp only [go_sem]) <;> exact wkl) (by rfl) (by rfl) ?_
    simp only [go_sem]
    refine hK _ _ fun nx => ?_; clear hK K; try clear kk
    obtain ⟨⟨r_10, r_11⟩, h6, hh⟩ := bind_ex hh
    dsimp only at hh
    refine awp_first fun K kk hK => ?_
    simp only [go_sem]
    refine step_call2 (piece_Put_ok _ _ _ _ _ h6) (by (try simp only [go_sem]) <;> exact wkl) (by rfl) (by rfl) ?_
    simp only [go_sem]
    refine hK _ _ fun nx => ?_; clear hK K; try clear kk
    refine awp_seq ?_
    refine awp_first fun K kk hK => ?_
    simp only [go_sem]
    refine hK _ _ fun nx => ?_; clear hK K; try clear kk
    by_cases h7 : (r_11 != (0 : Int)) = true
    · rw [if_pos h7] at hh
      refine awp_true (by first | exact congrArg PV.bool h7 | rfl) ?_
      refine awp_first fun K kk hK => ?_
      simp only [go_sem]
      refine hK _ _ fun nx => ?_; clear hK K; try clear kk
      refine awp_ret ?_; refine nmx ?_
      obtain hR := Option.some.inj hh
      subst hR
      exact ret_p2
    · rw [if_neg h7] at hh
      replace h7 := Bool.eq_false_iff.mpr h7
      refine awp_false (by first | exact congrArg PV.bool h7 | rfl) ?_
      refine awp_skip ?_; refine nmx ?_
      obtain ⟨of_12, h8, hh⟩ := bind_ex hh
      refine awp_first fun K kk hK => ?_
      simp only [go_sem]
      refine step_call2 (token_Of_ok _ _ h8).list (by (try simp only [go_sem]) <;> exact wkl) (by rfl) (by rfl) ?_
      simp only [go_sem]
      refine hK _ _ fun nx => ?_; clear hK K; try clear kk
      obtain ⟨of_13, h9, hh⟩ := bind_ex hh
      refine awp_first fun K kk hK => ?_
      simp only [go_sem]
      refine step_call2 (token_Of_ok _ _ h9).list (by (try simp only [go_sem]) <;> exact wkl) (by rfl) (by rfl) ?_
      simp only [go_sem]
      refine hK _ _ fun nx => ?_; clear hK K; try clear kk
      obtain ⟨of_14, h10, hh⟩ := bind_ex hh
      refine awp_first fun K kk hK => ?_
      simp only [go_sem]
      refine step_call2 (token_Of_ok _ _ h10).list (by (try simp only [go_sem]) <;> exact wkl) (by rfl) (by rfl) ?_
      simp only [go_sem]
      refine hK _ _ fun nx => ?_; clear hK K; try clear kk
      refine awp_seq ?_
      refine awp_first fun K kk hK => ?_
      simp only [go_sem]
      refine hK _ _ fun nx => ?_; clear hK K; try clear kk
      by_cases h11 : ((of_13.length : Int) != (w64 ((w64 ((of_12.length : Int) - (w64 (r_8 - r_7)))) + (of_14.length : Int)))) = true
      · rw [if_pos h11] at hh
        refine awp_true (by first | exact congrArg PV.bool h11 | rfl) ?_
        refine awp_first fun K kk hK => ?_
        simp only [go_sem]
        refine hK _ _ fun nx => ?_; clear hK K; try clear kk
        refine awp_ret ?_; refine nmx ?_
        obtain hR := Option.some.inj hh
        subst hR
        exact ret_p2
      · rw [if_neg h11] at hh
        replace h11 := Bool.eq_false_iff.mpr h11
        refine awp_false (by first | exact congrArg PV.bool h11 | rfl) ?_
        refine awp_skip ?_; refine nmx ?_
        refine awp_seq ?_
        refine awp_first fun K kk hK => ?_
        simp only [go_sem]
        refine hK _ _ fun nx => ?_; clear hK K; try clear kk
        obtain ⟨e0, f0, hh⟩ := bind_ex hh
        obtain ⟨hlen0, f0⟩ := chk_some f0
        refine awp_fragE (CutTo (fun s => .inr () = e0 ∧ ∃ (i_32 : Int) (v_33 : Bool) (nx : Nat), s = ⟨[(11, .int .i64 r_7), (12, .int .i64 r_8), (16, .list 3 (of_12.map token_Token.pv)), (17, .list 3 (of_13.map token_Token.pv)), (18, .list 3 (of_14.map token_Token.pv)), (19, .int .i64 i_32), (68, .bool v_33)], [], nx⟩))
          (fun i s => False)
          (fun s => ∃ res_31, .inl res_31 = e0 ∧ bodyR Tryd.prog [.tmp 8] (.bool res_31) [] .ret s) ?_ ?_ ?_ ?_
        · refine awp_block ?_
          refine awp_loopJ fun I hI => ?_
          have key : ∀ (suf pre : List token_Token) (i_20 : Int), of_13 = pre ++ suf → i_20 = (pre.length : Int) → diptychlaw5_PieceTokens_l0 r_7 r_8 of_12 of_14 suf i_20 = some e0 → ∀ (nx : Nat), I ⟨[(11, .int .i64 r_7), (12, .int .i64 r_8), (16, .list 3 (of_12.map token_Token.pv)), (17, .list 3 (of_13.map token_Token.pv)), (18, .list 3 (of_14.map token_Token.pv)), (19, .int .i64 i_20)], [], nx⟩ := by
            intro suf
            induction suf with
            | nil =>
              intro pre i_20 hsplit hidx hh nx
              rw [diptychlaw5_PieceTokens_l0] at hh
              refine hI _ ?_
              have h28 := walk_nil hsplit hidx
              refine awp_seq ?_
              refine awp_first fun K kk hK => ?_
              simp only [go_sem]
              refine hK _ _ fun nx => ?_; clear hK K; try clear kk
              refine awp_false (by first | exact congrArg PV.bool h28 | rfl) ?_
              refine awp_exit ?_; refine nmx ?_
              refine fragN ?_
              refine cut_id ?_
              refine ⟨(Option.some.inj hh), ?_⟩
              first | exact ⟨_, _, _, rfl⟩ | (simp only [diptychlaw5_Cell.pv_eq, api_Attr.pv_eq, api_Node.pv_eq, place_Spot.pv_eq, piece_flat.pv_eq, diptychref4_Spot.pv_eq, token_Token.pv_eq, pvL, List.map_cons, List.map_nil, List.map_append, rune1]; exact ⟨_, _, _, rfl⟩) | (simp only [diptychlaw5_Cell.pv_eq, api_Attr.pv_eq, api_Node.pv_eq, place_Spot.pv_eq, piece_flat.pv_eq, diptychref4_Spot.pv_eq, token_Token.pv_eq, pvL, List.map_cons, List.map_nil, List.map_append, rune1, h11, h2, h28, h7]; exact ⟨_, _, _, rfl⟩)
            | cons y_26 suf ih =>
              intro pre i_20 hsplit hidx hh nx
              rw [diptychlaw5_PieceTokens_l0] at hh
              refine hI _ ?_
              obtain ⟨hl0a, hl0b, hl0d, hl0w, h28⟩ := walk_cons (f := token_Token.pv) hsplit hidx hlen0
              refine awp_seq ?_
              refine awp_first fun K kk hK => ?_
              simp only [go_sem]
              refine hK _ _ fun nx => ?_; clear hK K; try clear kk
              refine awp_true (by first | exact congrArg PV.bool h28 | rfl) ?_
              refine awp_skip ?_; refine nmx ?_
              refine awp_seq ?_
              refine awp_block ?_
              refine awp_first fun K kk hK => ?_
              simp only [go_sem, hl0a, hl0b, hl0d, hl0w]
              refine hK _ _ fun nx => ?_; clear hK K; try clear kk
              refine awp_seq ?_
              obtain ⟨e3, f3, hh⟩ := bind_ex hh
              refine awp_frag (fun s => ∃ w_30, w_30 = e3 ∧ ∃ (nx : Nat) (g20 : Nat), s = ⟨[(11, .int .i64 r_7), (12, .int .i64 r_8), (16, .list 3 (of_12.map token_Token.pv)), (17, .list 3 (of_13.map token_Token.pv)), (18, .list 3 (of_14.map token_Token.pv)), (19, .int .i64 i_20), (20, .box 20 g20 0)], [(20, g20, .var 84 [.int .u8 w_30.Kind, .str w_30.Text, .str w_30.Head])], nx⟩)
                (fun i s => False)
                (fun s => False) ?_ ?_ ?_ ?_
              · have hh := f3
                refine awp_first fun K kk hK => ?_
                simp only [go_sem, hl0a, hl0b, hl0d, hl0w]
                refine hK _ _ fun nx => ?_; clear hK K; try clear kk
                by_cases h29 : (decide (i_20 < r_7)) = true
                · rw [if_pos h29] at hh
                  refine awp_true (by first | exact congrArg PV.bool h29 | rfl) ?_
                  obtain ⟨x_27, h30, hh⟩ := bind_ex hh
                  obtain ⟨h30a, h30b, h30c⟩ := rd_some h30
                  have h30d := rd_get (f := token_Token.pv) h30c
                  have h30f := rd_more (f := token_Token.pv) h30c
                  try simp only [Int.toNat_natCast, Int.reduceToNat] at h30d h30f
                  refine awp_region fun K kk hK => ?_
                  simp only [go_sem, h30a, h30b, h30d, h30f.1, h30f.2, hl0a, hl0b, hl0d, hl0w]
                  (repeat refine sd ?_)
                  refine hK _ _ fun nx => ?_; clear hK K; try clear kk
                  refine nmx ?_
                  refine fragN ?_
                  refine cut_id ?_
                  refine ⟨_, (Option.some.inj hh), ?_⟩
                  first | exact ⟨_, _, rfl⟩ | (simp only [diptychlaw5_Cell.pv_eq, api_Attr.pv_eq, api_Node.pv_eq, place_Spot.pv_eq, piece_flat.pv_eq, diptychref4_Spot.pv_eq, token_Token.pv_eq, pvL, List.map_cons, List.map_nil, List.map_append, rune1]; exact ⟨_, _, rfl⟩) | (simp only [diptychlaw5_Cell.pv_eq, api_Attr.pv_eq, api_Node.pv_eq, place_Spot.pv_eq, piece_flat.pv_eq, diptychref4_Spot.pv_eq, token_Token.pv_eq, pvL, List.map_cons, List.map_nil, List.map_append, rune1, h11, h2, h28, h29, h7]; exact ⟨_, _, rfl⟩)
                · rw [if_neg h29] at hh
                  replace h29 := Bool.eq_false_iff.mpr h29
                  refine awp_false (by first | exact congrArg PV.bool h29 | rfl) ?_
                  refine awp_first fun K kk hK => ?_
                  simp only [go_sem, hl0a, hl0b, hl0d, hl0w]
                  refine hK _ _ fun nx => ?_; clear hK K; try clear kk
                  by_cases h31 : (decide (i_20 < (w64 (r_7 + (of_14.length : Int))))) = true
                  · rw [if_pos h31] at hh
                    refine awp_true (by first | exact congrArg PV.bool h31 | rfl) ?_
                    obtain ⟨x_28, h32, hh⟩ := bind_ex hh
                    obtain ⟨h32a, h32b, h32c⟩ := rd_some h32
                    have h32d := rd_get (f := token_Token.pv) h32c
                    have h32f := rd_more (f := token_Token.pv) h32c
                    try simp only [Int.toNat_natCast, Int.reduceToNat] at h32d h32f
                    refine awp_region fun K kk hK => ?_
                    simp only [go_sem, h32a, h32b, h32d, h32f.1, h32f.2, hl0a, hl0b, hl0d, hl0w]
                    (repeat refine sd ?_)
                    refine hK _ _ fun nx => ?_; clear hK K; try clear kk
                    refine nmx ?_
                    refine fragN ?_
                    refine cut_id ?_
                    refine ⟨_, (Option.some.inj hh), ?_⟩
                    first | exact ⟨_, _, rfl⟩ | (simp only [diptychlaw5_Cell.pv_eq, api_Attr.pv_eq, api_Node.pv_eq, place_Spot.pv_eq, piece_flat.pv_eq, diptychref4_Spot.pv_eq, token_Token.pv_eq, pvL, List.map_cons, List.map_nil, List.map_append, rune1]; exact ⟨_, _, rfl⟩) | (simp only [diptychlaw5_Cell.pv_eq, api_Attr.pv_eq, api_Node.pv_eq, place_Spot.pv_eq, piece_flat.pv_eq, diptychref4_Spot.pv_eq, token_Token.pv_eq, pvL, List.map_cons, List.map_nil, List.map_append, rune1, h11, h2, h28, h29, h31, h7]; exact ⟨_, _, rfl⟩)
                  · rw [if_neg h31] at hh
                    replace h31 := Bool.eq_false_iff.mpr h31
                    refine awp_false (by first | exact congrArg PV.bool h31 | rfl) ?_
                    obtain ⟨x_29, h33, hh⟩ := bind_ex hh
                    obtain ⟨h33a, h33b, h33c⟩ := rd_some h33
                    have h33d := rd_get (f := token_Token.pv) h33c
                    have h33f := rd_more (f := token_Token.pv) h33c
                    try simp only [Int.toNat_natCast, Int.reduceToNat] at h33d h33f
                    refine awp_region fun K kk hK => ?_
                    simp only [go_sem, h33a, h33b, h33d, h33f.1, h33f.2, hl0a, hl0b, hl0d, hl0w]
                    (repeat refine sd ?_)
                    refine hK _ _ fun nx => ?_; clear hK K; try clear kk
                    refine nmx ?_
                    refine fragN ?_
                    refine cut_id ?_
                    refine ⟨_, (Option.some.inj hh), ?_⟩
                    first | exact ⟨_, _, rfl⟩ | (simp only [diptychlaw5_Cell.pv_eq, api_Attr.pv_eq, api_Node.pv_eq, place_Spot.pv_eq, piece_flat.pv_eq, diptychref4_Spot.pv_eq, token_Token.pv_eq, pvL, List.map_cons, List.map_nil, List.map_append, rune1]; exact ⟨_, _, rfl⟩) | (simp only [diptychlaw5_Cell.pv_eq, api_Attr.pv_eq, api_Node.pv_eq, place_Spot.pv_eq, piece_flat.pv_eq, diptychref4_Spot.pv_eq, token_Token.pv_eq, pvL, List.map_cons, List.map_nil, List.map_append, rune1, h11, h2, h28, h29, h31, h7]; exact ⟨_, _, rfl⟩)
              · rintro s ⟨w_30, rfl, nx, g20, rfl⟩
                try dsimp only at hh
                refine awp_first fun K kk hK => ?_
                simp only [go_sem, hl0a, hl0b, hl0d, hl0w]
                refine hK _ _ fun nx => ?_; clear hK K; try clear kk
                by_cases h34 : ((((w_30.Kind == y_26.Kind) && ((w_30.Text == y_26.Text) && (w_30.Head == y_26.Head))) != true)) = true
                · rw [if_pos h34] at hh
                  refine awp_true (by first | exact congrArg PV.bool h34 | rfl) ?_
                  refine awp_first fun K kk hK => ?_
                  simp only [go_sem, hl0a, hl0b, hl0d, hl0w]
                  refine hK _ _ fun nx => ?_; clear hK K; try clear kk
                  refine awp_ret ?_; refine nmx ?_
                  refine fragR ⟨_, (Option.some.inj hh), ?_⟩
                  exact ret_p2
                · rw [if_neg h34] at hh
                  replace h34 := Bool.eq_false_iff.mpr h34
                  refine awp_false (by first | exact congrArg PV.bool h34 | rfl) ?_
                  refine awp_skip ?_; refine nmx ?_
                  refine awp_region fun K kk hK => ?_
                  simp only [go_sem, hl0a, hl0b, hl0d, hl0w]
                  refine hK _ _ fun nx => ?_; clear hK K; try clear kk
                  refine nmx ?_
                  have ih' := ih (pre ++ [y_26]) (i_20 + 1) (by rw [hsplit]; simp) (by simp [hidx]) hh nx
                  refine cut_id ?_
                  first | exact ih' | (simp only [diptychlaw5_Cell.pv_eq, api_Attr.pv_eq, api_Node.pv_eq, place_Spot.pv_eq, piece_flat.pv_eq, diptychref4_Spot.pv_eq, token_Token.pv_eq, pvL, List.map_cons, List.map_nil, List.map_append, rune1] at ih' ⊢; exact ih') | (simp only [diptychlaw5_Cell.pv_eq, api_Attr.pv_eq, api_Node.pv_eq, place_Spot.pv_eq, piece_flat.pv_eq, diptychref4_Spot.pv_eq, token_Token.pv_eq, pvL, List.map_cons, List.map_nil, List.map_append, rune1, h11, h2, h28, h34, h7] at ih' ⊢; exact ih')
              · intro i s h; exact h.elim
              · intro s h; exact h.elim
          exact key of_13 [] _ rfl rfl f0 _
        · rintro s ⟨t, hless, rfl, i_32, v_33, nx, rfl⟩
          try dsimp only at hh
          refine nmy ?_
          first | (refine cut_less hless ?_; try refine cut_awp ?_) | refine frag_less hless ?_ | refine body_less hless ?_
          refine awp_first fun K kk hK => ?_
          simp only [go_sem]
          refine hK _ _ fun nx => ?_; clear hK K; try clear kk
          refine awp_ret ?_; refine nmx ?_
          obtain hR := Option.some.inj hh
          subst hR
          exact ret_p2
        · intro i s h; exact h.elim
        · rintro s ⟨res_31, rfl, hb⟩
          try dsimp only at hh
          obtain hR := Option.some.inj hh
          subst hR
          refine nmx ?_
          exact hb
theorem diptychlaw5_PieceTwice_ok (l_1 : (List diptychlaw5_Cell)) (from_2 : Int) (to_3 : Int) (R : Bool) (hh : diptychlaw5_PieceTwice l_1 from_2 to_3 = some R) : PC Tryd.prog 9 [.list 3 (l_1.map diptychlaw5_Cell.pv), .int .i64 from_2, .int .i64 to_3] (.bool R) := by
  rw [diptychlaw5_PieceTwice] at hh
  refine start_diptychlaw5_PieceTwice rfl ?_
  refine awp_first fun K kk hK => ?_
  simp only [go_sem]
  refine hK _ _ fun nx => ?_; clear hK K; try clear kk
  obtain ⟨shown_4, h1, hh⟩ := bind_ex hh
  refine awp_first fun K kk hK => ?_
  simp only [go_sem]
  refine step_call2 (diptychlaw5_shown_ok _ h1) (by (try simp only [go_sem]) <;> exact wkl) (by rfl) (by rfl) ?_
  simp only [go_sem]
  refine hK _ _ fun nx => ?_; clear hK K; try clear kk
  refine awp_seq ?_
  refine awp_first fun K kk hK => ?_
  simp only [go_sem]
  refine hK _ _ fun nx => ?_; clear hK K; try clear kk
  by_cases h2 : (!shown_4) = true
  · rw [if_pos h2] at hh
    refine awp_true (by first | exact congrArg PV.bool h2 | rfl) ?_
    refine awp_first fun K kk hK => ?_
    simp only [go_sem]
    refine hK _ _ fun nx => ?_; clear hK K; try clear kk
    refine awp_ret ?_; refine nmx ?_
    obtain hR := Option.some.inj hh
    subst hR
    exact ret_p2
  · rw [if_neg h2] at hh
    replace h2 := Bool.eq_false_iff.mpr h2
    refine awp_false (by first | exact congrArg PV.bool h2 | rfl) ?_
    refine awp_skip ?_; refine nmx ?_
    obtain ⟨doc_5, h3, hh⟩ := bind_ex hh
    refine awp_first fun K kk hK => ?_
    simp only [go_sem]
    refine step_call2 (diptychlaw5_doc_ok _ _ h3) (by (try simp only [go_sem]) <;> exact wkl) (by rfl) (by rfl) ?_
    simp only [go_sem]
    refine hK _ _ fun nx => ?_; clear hK K; try clear kk
    obtain ⟨total_6, h4, hh⟩ := bind_ex hh
    obtain ⟨pick_7, h5, hh⟩ := bind_ex hh
    refine awp_first fun K kk hK => ?_
    simp only [go_sem]
    refine step_call2 (node_Total_ok _ _ h4) (by (try simp only [go_sem]) <;> exact wkl) (by rfl) (by rfl) ?_
    simp only [go_sem]
    refine step_call2 (diptychlaw5_pick_ok _ _ _ h5) (by (try simp only [go_sem]) <;> exact wkl) (by rfl) (by rfl) ?_
    simp only [go_sem]
    refine hK _ _ fun nx => ?_; clear hK K; try clear kk
    obtain ⟨total_8, h6, hh⟩ := bind_ex hh
    obtain ⟨pick_9, h7, hh⟩ := bind_ex hh
    refine awp_first fun K kk hK => ?_
    simp only [go_sem]
    refine step_call2 (node_Total_ok _ _ h6) (by (try simp only [go_sem]) <;> exact wkl) (by rfl) (by rfl) ?_
    simp only [go_sem]
    refine step_call2 (diptychlaw5_pick_ok _ _ _ h7) (by (try simp only [go_sem]) <;> exact wkl) (by rfl) (by rfl) ?_
    simp only [go_sem]
    refine hK _ _ fun nx => ?_; clear hK K; try clear kk
    refine awp_seq ?_
    refine awp_first fun K kk hK => ?_
    simp only [go_sem]
    refine hK _ _ fun nx => ?_; clear hK K; try clear kk
    by_cases h8 : (decide (pick_7 ≥ pick_9)) = true
    · rw [if_pos h8] at hh
      refine awp_true (by first | exact congrArg PV.bool h8 | rfl) ?_
      refine awp_first fun K kk hK => ?_
      simp only [go_sem]
      refine hK _ _ fun nx => ?_; clear hK K; try clear kk
      refine awp_ret ?_; refine nmx ?_
      obtain hR := Option.some.inj hh
      subst hR
      exact ret_p2
    · rw [if_neg h8] at hh
      replace h8 := Bool.eq_false_iff.mpr h8
      refine awp_false (by first | exact congrArg PV.bool h8 | rfl) ?_
      refine awp_skip ?_; refine nmx ?_
      refine awp_first fun K kk hK => ?_
      simp only [go_sem]
      refine hK _ _ fun nx => ?_; clear hK K; try clear kk
      refine awp_first fun K kk hK => ?_
      simp only [go_sem]
      refine hK _ _ fun nx => ?_; clear hK K; try clear kk
      obtain ⟨⟨r_10, r_11⟩, h9, hh⟩ := bind_ex hh
      dsimp only at hh
      refine awp_first fun K kk hK => ?_
      simp only [go_sem]
      refine step_call2 (piece_Put_ok _ _ _ _ _ h9) (by (try simp only [go_sem]) <;> exact wkl) (by rfl) (by rfl) ?_
      simp only [go_sem]
      refine hK _ _ fun nx => ?_; clear hK K; try clear kk
      obtain ⟨⟨r_12, r_13⟩, h10, hh⟩ := bind_ex hh
      dsimp only at hh
      refine awp_first fun K kk hK => ?_
      simp only [go_sem]
      refine step_call2 (piece_Put_ok _ _ _ _ _ h10) (by (try simp only [go_sem]) <;> exact wkl) (by rfl) (by rfl) ?_
      simp only [go_sem]
      refine hK _ _ fun nx => ?_; clear hK K; try clear kk
      obtain ⟨⟨r_14, r_15⟩, h11, hh⟩ := bind_ex hh
      dsimp only at hh
      refine awp_first fun K kk hK => ?_
      simp only [go_sem]
      refine step_call2 (piece_Put_ok _ _ _ _ _ h11) (by (try simp only [go_sem]) <;> exact wkl) (by rfl) (by rfl) ?_
      simp only [go_sem]
      refine hK _ _ fun nx => ?_; clear hK K; try clear kk
      obtain ⟨⟨r_16, r_17⟩, h12, hh⟩ := bind_ex hh
      dsimp only at hh
      refine awp_first fun K kk hK => ?_
      simp only [go_sem]
      refine step_call2 (piece_Put_ok _ _ _ _ _ h12) (by (try simp only [go_sem]) <;> exact wkl) (by rfl) (by rfl) ?_
      simp only [go_sem]
      refine hK _ _ fun nx => ?_; clear hK K; try clear kk
      by_cases h13 : (r_11 == (0 : Int)) = true
      · rw [if_pos h13] at hh
        by_cases h14 : (r_13 == (0 : Int)) = true
        · rw [if_pos h14] at hh
          by_cases h15 : (r_15 == (0 : Int)) = true
          · rw [if_pos h15] at hh
            by_cases h16 : (r_17 == (0 : Int)) = true
            · rw [if_pos h16] at hh
              obtain ⟨same_18, h17, hh⟩ := bind_ex hh
              refine awp_first fun K kk hK => ?_
              simp only [go_sem, h13, h13, h14, h14, h15, h15, h16, h16]
              (repeat refine sd ?_)
              refine step_call2 (node_Same_ok _ _ _ h17) (by (try simp only [go_sem, h13, h13, h14, h14, h15, h15, h16, h16]) <;> exact wkl) (by rfl) (by rfl) ?_
              simp only [go_sem, h13, h13, h14, h14, h15, h15, h16, h16]
              (repeat refine sd ?_)
              refine hK _ _ fun nx => ?_; clear hK K; try clear kk
              refine awp_ret ?_; refine nmx ?_
              obtain hR := Option.some.inj hh
              subst hR
              exact ret_p2
            · rw [if_neg h16] at hh
              replace h16 := Bool.eq_false_iff.mpr h16
              refine awp_first fun K kk hK => ?_
              simp only [go_sem, h13, h13, h14, h14, h15, h15, h16, h16]
              (repeat refine sd ?_)
              refine hK _ _ fun nx => ?_; clear hK K; try clear kk
              refine awp_ret ?_; refine nmx ?_
              obtain hR := Option.some.inj hh
              subst hR
              exact ret_p2
          · rw [if_neg h15] at hh
            replace h15 := Bool.eq_false_iff.mpr h15
            refine awp_first fun K kk hK => ?_
            simp only [go_sem, h13, h13, h14, h14, h15, h15]
            (repeat refine sd ?_)
            refine hK _ _ fun nx => ?_; clear hK K; try clear kk
            refine awp_ret ?_; refine nmx ?_
            obtain hR := Option.some.inj hh
            subst hR
            exact ret_p2
        · rw [if_neg h14] at hh
          replace h14 := Bool.eq_false_iff.mpr h14
          refine awp_first fun K kk hK => ?_
          simp only [go_sem, h13, h13, h14, h14]
          (repeat refine sd ?_)
          refine hK _ _ fun nx => ?_; clear hK K; try clear kk
          refine awp_ret ?_; refine nmx ?_
          obtain hR := Option.some.inj hh
          subst hR
          exact ret_p2
      · rw [if_neg h13] at hh
        replace h13 := Bool.eq_false_iff.mpr h13
        refine awp_first fun K kk hK => ?_
        simp only [go_sem, h13, h13]
        (repeat refine sd ?_)
        refine hK _ _ fun nx => ?_; clear hK K; try clear kk
        refine awp_ret ?_; refine nmx ?_
        obtain hR := Option.some.inj hh
        subst hR
        exact ret_p2

end Go.Proofs.YtblielhogcnnkaaDoor
