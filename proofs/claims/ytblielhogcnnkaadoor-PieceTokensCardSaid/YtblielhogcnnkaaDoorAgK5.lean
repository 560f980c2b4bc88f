/- What the functions answer, the program answers (5). -/
import Derived.Test.YtblielhogcnnkaaDoorAgC
import Derived.Test.YtblielhogcnnkaaDoorAgF
import Derived.Test.YtblielhogcnnkaaDoorAgK3
import Derived.Test.YtblielhogcnnkaaDoorAgK4
namespace Go.Proofs.YtblielhogcnnkaaDoor
set_option linter.unusedSimpArgs false
set_option linter.unusedVariables false
open Go
set_option maxRecDepth 100000

theorem diptychlaw5_made_ok (l_1 : (List diptychlaw5_Cell)) (R : (List api_Node)) (hh : diptychlaw5_made l_1 = some R) : PC Tryd.prog 31 [.list 3 (l_1.map diptychlaw5_Cell.pv)] (.list 5 (R.map api_Node.pv)) := by
  rw [diptychlaw5_made] at hh
  refine start_diptychlaw5_made rfl ?_
  refine awp_first fun K kk hK => ?_
  simp only [go_sem]
  refine hK _ _ fun nx => ?_; clear hK K; try clear kk
  refine awp_first fun K kk hK => ?_
  simp only [go_sem]
  refine hK _ _ fun nx => ?_; clear hK K; try clear kk
  refine awp_first fun K kk hK => ?_
  simp only [go_sem]
  refine hK _ _ fun nx => ?_; clear hK K; try clear kk
  refine awp_first fun K kk hK => ?_
  simp only [go_sem]
  refine hK _ _ fun nx => ?_; clear hK K; try clear kk
  refine awp_seq ?_
  refine awp_first fun K kk hK => ?_
  simp only [go_sem]
  refine hK _ _ fun nx => ?_; clear hK K; try clear kk
  obtain ⟨e0, f0, hh⟩ := bind_ex hh
  obtain ⟨hlen0, f0⟩ := chk_some f0
  refine awp_fragE (CutTo (fun s => ∃ out_78, out_78 = e0 ∧ ∃ (i_76 : Int) (v_77 : Bool) (nx : Nat) (g3 : Nat) (g4 : Nat) (g5 : Nat), s = ⟨[(0, .list 3 (l_1.map diptychlaw5_Cell.pv)), (3, .row 3 g3 [([97] : Str), ([98, 99] : Str), ([195, 169] : Str), ([120, 32, 121] : Str), ([230, 151, 165, 230, 156, 172] : Str)].length), (4, .row 4 g4 [([112, 97, 114, 97] : Str), ([105, 116, 101, 109] : Str), ([108, 105, 115, 116] : Str), ([110, 111, 116, 101] : Str)].length), (5, .row 5 g5 out_78.length), (6, .int .i64 i_76), (19, .bool v_77)], [(3, g3, .row false 1 ([([97] : Str), ([98, 99] : Str), ([195, 169] : Str), ([120, 32, 121] : Str), ([230, 151, 165, 230, 156, 172] : Str)].map PV.str)), (4, g4, .row false 1 ([([112, 97, 114, 97] : Str), ([105, 116, 101, 109] : Str), ([108, 105, 115, 116] : Str), ([110, 111, 116, 101] : Str)].map PV.str)), (5, g5, .row false 5 (out_78.map api_Node.pv))], nx⟩))
    (fun i s => False)
    (fun s => False) ?_ ?_ ?_ ?_
  · refine awp_block ?_
    refine awp_loopJ fun I hI => ?_
    have key : ∀ (suf pre : List diptychlaw5_Cell) (i_26 : Int) (out_27 : (List api_Node)), l_1 = pre ++ suf → i_26 = (pre.length : Int) → diptychlaw5_made_l0 suf i_26 out_27 = some e0 → ∀ (nx : Nat) (g3 : Nat) (g4 : Nat) (g5 : Nat), I ⟨[(0, .list 3 (l_1.map diptychlaw5_Cell.pv)), (3, .row 3 g3 [([97] : Str), ([98, 99] : Str), ([195, 169] : Str), ([120, 32, 121] : Str), ([230, 151, 165, 230, 156, 172] : Str)].length), (4, .row 4 g4 [([112, 97, 114, 97] : Str), ([105, 116, 101, 109] : Str), ([108, 105, 115, 116] : Str), ([110, 111, 116, 101] : Str)].length), (5, .row 5 g5 out_27.length), (6, .int .i64 i_26)], [(3, g3, .row false 1 ([([97] : Str), ([98, 99] : Str), ([195, 169] : Str), ([120, 32, 121] : Str), ([230, 151, 165, 230, 156, 172] : Str)].map PV.str)), (4, g4, .row false 1 ([([112, 97, 114, 97] : Str), ([105, 116, 101, 109] : Str), ([108, 105, 115, 116] : Str), ([110, 111, 116, 101] : Str)].map PV.str)), (5, g5, .row false 5 (out_27.map api_Node.pv))], nx⟩ := by
      intro suf
      induction suf with
      | nil =>
        intro pre i_26 out_27 hsplit hidx hh nx g3 g4 g5
        rw [diptychlaw5_made_l0] at hh
        refine hI _ ?_
        have h65 := walk_nil hsplit hidx
        refine awp_seq ?_
        refine awp_first fun K kk hK => ?_
        simp only [go_sem, h65, of_decide_eq_false h65, h65, of_decide_eq_false h65]
        (repeat refine sd ?_)
        refine hK _ _ fun nx => ?_; clear hK K; try clear kk
        refine awp_false rfl ?_
        refine awp_exit ?_; refine nmx ?_
        refine fragN ?_
        refine cut_id ?_
        refine ⟨_, (Option.some.inj hh), ?_⟩
        first | exact ⟨_, _, _, _, _, _, rfl⟩ | (simp only [diptychlaw5_Cell.pv_eq, api_Attr.pv_eq, api_Node.pv_eq, token_Token.pv_eq, piece_flat.pv_eq, place_Spot.pv_eq, diptychref4_Spot.pv_eq, pvL, List.map_cons, List.map_nil, List.map_append, rune1]; exact ⟨_, _, _, _, _, _, rfl⟩) | (simp only [diptychlaw5_Cell.pv_eq, api_Attr.pv_eq, api_Node.pv_eq, token_Token.pv_eq, piece_flat.pv_eq, place_Spot.pv_eq, diptychref4_Spot.pv_eq, pvL, List.map_cons, List.map_nil, List.map_append, rune1, h65]; exact ⟨_, _, _, _, _, _, rfl⟩)
      | cons y_52 suf ih =>
        intro pre i_26 out_27 hsplit hidx hh nx g3 g4 g5
        rw [diptychlaw5_made_l0] at hh
        refine hI _ ?_
        obtain ⟨hl0a, hl0b, hl0d, hl0w, h65⟩ := walk_cons (f := diptychlaw5_Cell.pv) hsplit hidx hlen0
        refine awp_seq ?_
        refine awp_first fun K kk hK => ?_
        simp only [go_sem, h65, of_decide_eq_true h65, h65, of_decide_eq_true h65, hl0a, hl0b, hl0d, hl0w]
        (repeat refine sd ?_)
        refine hK _ _ fun nx => ?_; clear hK K; try clear kk
        by_cases h66 : (decide (i_26 < (19 : Int))) = true
        · rw [if_pos h66] at hh
          refine awp_true (by first | exact congrArg PV.bool h66 | rfl) ?_
          refine awp_skip ?_; refine nmx ?_
          refine awp_seq ?_
          refine awp_block ?_
          refine awp_first fun K kk hK => ?_
          simp only [go_sem, hl0a, hl0b, hl0d, hl0w]
          refine hK _ _ fun nx => ?_; clear hK K; try clear kk
          obtain ⟨pick_53, h67, hh⟩ := bind_ex hh
          obtain ⟨x_54, h68, hh⟩ := bind_ex hh
          obtain ⟨h68a, h68b, h68c⟩ := rd_some h68
          have h68d := rd_get (f := PV.str) h68c
          have h68f := rd_more (f := PV.str) h68c
          try simp only [Int.toNat_natCast, Int.reduceToNat] at h68d h68f
          simp only [List.length_cons, List.length_nil, List.map_cons, List.map_nil, Nat.zero_add, Nat.reduceAdd, reduceCtorEq, not_false_eq_true, and_true, diptychlaw5_Cell.pv_eq, api_Attr.pv_eq, api_Node.pv_eq, token_Token.pv_eq, piece_flat.pv_eq, place_Spot.pv_eq, diptychref4_Spot.pv_eq, pvL] at h68b h68d h68f
          refine awp_first fun K kk hK => ?_
          simp only [go_sem, h68a, h68b, h68d, h68f, hl0a, hl0b, hl0d, hl0w]
          (repeat refine sd ?_)
          refine step_call2 (diptychlaw5_pick_ok _ _ _ h67) (by (try simp only [go_sem, h68a, h68b, h68d, h68f, hl0a, hl0b, hl0d, hl0w]) <;> exact wkl) (by rfl) (by rfl) ?_
          simp only [go_sem, h68a, h68b, h68d, h68f, hl0a, hl0b, hl0d, hl0w]
          (repeat refine sd ?_)
          refine hK _ _ fun nx => ?_; clear hK K; try clear kk
          refine awp_seq ?_
          obtain ⟨e9, f9, hh⟩ := bind_ex hh
          refine awp_frag (fun s => ∃ n_58, n_58 = e9 ∧ ∃ (nx : Nat) (g3 : Nat) (g4 : Nat) (g5 : Nat) (g7 : Nat) (g8 : Nat), s = ⟨[(0, .list 3 (l_1.map diptychlaw5_Cell.pv)), (3, .row 3 g3 [([97] : Str), ([98, 99] : Str), ([195, 169] : Str), ([120, 32, 121] : Str), ([230, 151, 165, 230, 156, 172] : Str)].length), (4, .row 4 g4 [([112, 97, 114, 97] : Str), ([105, 116, 101, 109] : Str), ([108, 105, 115, 116] : Str), ([110, 111, 116, 101] : Str)].length), (5, .row 5 g5 out_27.length), (6, .int .i64 i_26), (7, .box 7 g7 0), (8, .box 8 g8 0)], [(3, g3, .row false 1 ([([97] : Str), ([98, 99] : Str), ([195, 169] : Str), ([120, 32, 121] : Str), ([230, 151, 165, 230, 156, 172] : Str)].map PV.str)), (4, g4, .row false 1 ([([112, 97, 114, 97] : Str), ([105, 116, 101, 109] : Str), ([108, 105, 115, 116] : Str), ([110, 111, 116, 101] : Str)].map PV.str)), (5, g5, .row false 5 (out_27.map api_Node.pv)), (7, g7, .var 114 [.int .i64 y_52.Op, .int .i64 y_52.A, .int .i64 y_52.B]), (8, g8, .var 28 [.str x_54, .str ([] : Str), .list 1 ([].map PV.str), .list 2 (n_58.map api_Attr.pv), .list 5 ([].map api_Node.pv)])], nx⟩)
            (fun i s => False)
            (fun s => False) ?_ ?_ ?_ ?_
          · have hh := f9
            obtain ⟨pick_55, h69, hh⟩ := bind_ex hh
            refine awp_first fun K kk hK => ?_
            simp only [go_sem, hl0a, hl0b, hl0d, hl0w]
            refine step_call2 (diptychlaw5_pick_ok _ _ _ h69) (by (try simp only [go_sem, hl0a, hl0b, hl0d, hl0w]) <;> exact wkl) (by rfl) (by rfl) ?_
            simp only [go_sem, hl0a, hl0b, hl0d, hl0w]
            refine hK _ _ fun nx => ?_; clear hK K; try clear kk
            by_cases h70 : (pick_55 == (1 : Int)) = true
            · rw [if_pos h70] at hh
              refine awp_true (by first | exact congrArg PV.bool h70 | rfl) ?_
              obtain ⟨pick_56, h71, hh⟩ := bind_ex hh
              obtain ⟨x_57, h72, hh⟩ := bind_ex hh
              obtain ⟨h72a, h72b, h72c⟩ := rd_some h72
              have h72d := rd_get (f := PV.str) h72c
              have h72f := rd_more (f := PV.str) h72c
              try simp only [Int.toNat_natCast, Int.reduceToNat] at h72d h72f
              simp only [List.length_cons, List.length_nil, List.map_cons, List.map_nil, Nat.zero_add, Nat.reduceAdd, reduceCtorEq, not_false_eq_true, and_true, diptychlaw5_Cell.pv_eq, api_Attr.pv_eq, api_Node.pv_eq, token_Token.pv_eq, piece_flat.pv_eq, place_Spot.pv_eq, diptychref4_Spot.pv_eq, pvL] at h72b h72d h72f
              refine awp_region fun K kk hK => ?_
              simp only [go_sem, h72a, h72b, h72d, h72f, hl0a, hl0b, hl0d, hl0w]
              (repeat refine sd ?_)
              refine step_call2 (diptychlaw5_pick_ok _ _ _ h71) (by (try simp only [go_sem, h72a, h72b, h72d, h72f, hl0a, hl0b, hl0d, hl0w]) <;> exact wkl) (by rfl) (by rfl) ?_
              simp only [go_sem, h72a, h72b, h72d, h72f, hl0a, hl0b, hl0d, hl0w]
              (repeat refine sd ?_)
              refine hK _ _ fun nx => ?_; clear hK K; try clear kk
              refine nmx ?_
              refine fragN ?_
              refine cut_id ?_
              refine ⟨_, (Option.some.inj hh), ?_⟩
              first | exact ⟨_, _, _, _, _, _, rfl⟩ | (simp only [diptychlaw5_Cell.pv_eq, api_Attr.pv_eq, api_Node.pv_eq, token_Token.pv_eq, piece_flat.pv_eq, place_Spot.pv_eq, diptychref4_Spot.pv_eq, pvL, List.map_cons, List.map_nil, List.map_append, rune1]; exact ⟨_, _, _, _, _, _, rfl⟩) | (simp only [diptychlaw5_Cell.pv_eq, api_Attr.pv_eq, api_Node.pv_eq, token_Token.pv_eq, piece_flat.pv_eq, place_Spot.pv_eq, diptychref4_Spot.pv_eq, pvL, List.map_cons, List.map_nil, List.map_append, rune1, h65, h66, h70]; exact ⟨_, _, _, _, _, _, rfl⟩)
            · rw [if_neg h70] at hh
              replace h70 := Bool.eq_false_iff.mpr h70
              refine awp_false (by first | exact congrArg PV.bool h70 | rfl) ?_
              refine awp_skip ?_; refine nmx ?_
              refine fragN ?_
              refine cut_to (less_cut _ [0, 3, 4, 5, 6, 7, 8] [3, 4, 5, 7, 8]) ?_
              refine ⟨_, (Option.some.inj hh), ?_⟩
              first | exact ⟨_, _, _, _, _, _, rfl⟩ | (simp only [diptychlaw5_Cell.pv_eq, api_Attr.pv_eq, api_Node.pv_eq, token_Token.pv_eq, piece_flat.pv_eq, place_Spot.pv_eq, diptychref4_Spot.pv_eq, pvL, List.map_cons, List.map_nil, List.map_append, rune1]; exact ⟨_, _, _, _, _, _, rfl⟩) | (simp only [diptychlaw5_Cell.pv_eq, api_Attr.pv_eq, api_Node.pv_eq, token_Token.pv_eq, piece_flat.pv_eq, place_Spot.pv_eq, diptychref4_Spot.pv_eq, pvL, List.map_cons, List.map_nil, List.map_append, rune1, h65, h66, h70]; exact ⟨_, _, _, _, _, _, rfl⟩)
          · rintro s ⟨n_58, rfl, nx, g3, g4, g5, g7, g8, rfl⟩
            try dsimp only at hh
            refine awp_seq ?_
            obtain ⟨pick_59, h73, hh⟩ := bind_ex hh
            refine awp_first fun K kk hK => ?_
            simp only [go_sem, hl0a, hl0b, hl0d, hl0w]
            refine step_call2 (diptychlaw5_pick_ok _ _ _ h73) (by (try simp only [go_sem, hl0a, hl0b, hl0d, hl0w]) <;> exact wkl) (by rfl) (by rfl) ?_
            simp only [go_sem, hl0a, hl0b, hl0d, hl0w]
            refine hK _ _ fun nx => ?_; clear hK K; try clear kk
            refine awp_block ?_
            refine awp_seq ?_
            obtain ⟨e10, f10, hh⟩ := bind_ex hh
            refine awp_frag (fun s => ∃ v_60, v_60 = e10 ∧ ∃ (nx : Nat) (g3 : Nat) (g4 : Nat) (g5 : Nat) (g7 : Nat) (g8 : Nat), s = ⟨[(0, .list 3 (l_1.map diptychlaw5_Cell.pv)), (3, .row 3 g3 [([97] : Str), ([98, 99] : Str), ([195, 169] : Str), ([120, 32, 121] : Str), ([230, 151, 165, 230, 156, 172] : Str)].length), (4, .row 4 g4 [([112, 97, 114, 97] : Str), ([105, 116, 101, 109] : Str), ([108, 105, 115, 116] : Str), ([110, 111, 116, 101] : Str)].length), (5, .row 5 g5 out_27.length), (6, .int .i64 i_26), (7, .box 7 g7 0), (8, .box 8 g8 0), (49, .int .i64 pick_59), (50, .bool v_60)], [(3, g3, .row false 1 ([([97] : Str), ([98, 99] : Str), ([195, 169] : Str), ([120, 32, 121] : Str), ([230, 151, 165, 230, 156, 172] : Str)].map PV.str)), (4, g4, .row false 1 ([([112, 97, 114, 97] : Str), ([105, 116, 101, 109] : Str), ([108, 105, 115, 116] : Str), ([110, 111, 116, 101] : Str)].map PV.str)), (5, g5, .row false 5 (out_27.map api_Node.pv)), (7, g7, .var 114 [.int .i64 y_52.Op, .int .i64 y_52.A, .int .i64 y_52.B]), (8, g8, .var 28 [.str x_54, .str ([] : Str), .list 1 ([].map PV.str), .list 2 (n_58.map api_Attr.pv), .list 5 ([].map api_Node.pv)])], nx⟩)
              (fun i s => False)
              (fun s => False) ?_ ?_ ?_ ?_
            · have hh := f10
              refine awp_first fun K kk hK => ?_
              simp only [go_sem, hl0a, hl0b, hl0d, hl0w]
              refine hK _ _ fun nx => ?_; clear hK K; try clear kk
              by_cases h74 : (pick_59 == (0 : Int)) = true
              · rw [if_pos h74] at hh
                refine awp_true (by first | exact congrArg PV.bool h74 | rfl) ?_
                refine awp_skip ?_; refine nmx ?_
                refine fragN ?_
                refine cut_id ?_
                refine ⟨_, (Option.some.inj hh), ?_⟩
                first | exact ⟨_, _, _, _, _, _, rfl⟩ | (simp only [diptychlaw5_Cell.pv_eq, api_Attr.pv_eq, api_Node.pv_eq, token_Token.pv_eq, piece_flat.pv_eq, place_Spot.pv_eq, diptychref4_Spot.pv_eq, pvL, List.map_cons, List.map_nil, List.map_append, rune1]; exact ⟨_, _, _, _, _, _, rfl⟩) | (simp only [diptychlaw5_Cell.pv_eq, api_Attr.pv_eq, api_Node.pv_eq, token_Token.pv_eq, piece_flat.pv_eq, place_Spot.pv_eq, diptychref4_Spot.pv_eq, pvL, List.map_cons, List.map_nil, List.map_append, rune1, h65, h66, h74]; exact ⟨_, _, _, _, _, _, rfl⟩)
              · rw [if_neg h74] at hh
                replace h74 := Bool.eq_false_iff.mpr h74
                refine awp_false (by first | exact congrArg PV.bool h74 | rfl) ?_
                refine awp_first fun K kk hK => ?_
                simp only [go_sem, hl0a, hl0b, hl0d, hl0w]
                refine hK _ _ fun nx => ?_; clear hK K; try clear kk
                by_cases h75 : (pick_59 == (1 : Int)) = true
                · rw [if_pos h75] at hh
                  refine awp_true (by first | exact congrArg PV.bool h75 | rfl) ?_
                  refine awp_skip ?_; refine nmx ?_
                  refine fragN ?_
                  refine cut_id ?_
                  refine ⟨_, (Option.some.inj hh), ?_⟩
                  first | exact ⟨_, _, _, _, _, _, rfl⟩ | (simp only [diptychlaw5_Cell.pv_eq, api_Attr.pv_eq, api_Node.pv_eq, token_Token.pv_eq, piece_flat.pv_eq, place_Spot.pv_eq, diptychref4_Spot.pv_eq, pvL, List.map_cons, List.map_nil, List.map_append, rune1]; exact ⟨_, _, _, _, _, _, rfl⟩) | (simp only [diptychlaw5_Cell.pv_eq, api_Attr.pv_eq, api_Node.pv_eq, token_Token.pv_eq, piece_flat.pv_eq, place_Spot.pv_eq, diptychref4_Spot.pv_eq, pvL, List.map_cons, List.map_nil, List.map_append, rune1, h65, h66, h74, h75]; exact ⟨_, _, _, _, _, _, rfl⟩)
                · rw [if_neg h75] at hh
                  replace h75 := Bool.eq_false_iff.mpr h75
                  refine awp_false (by first | exact congrArg PV.bool h75 | rfl) ?_
                  refine awp_first fun K kk hK => ?_
                  simp only [go_sem, hl0a, hl0b, hl0d, hl0w]
                  refine hK _ _ fun nx => ?_; clear hK K; try clear kk
                  by_cases h76 : (pick_59 == (2 : Int)) = true
                  · rw [if_pos h76] at hh
                    refine awp_true (by first | exact congrArg PV.bool h76 | rfl) ?_
                    refine awp_skip ?_; refine nmx ?_
                    refine fragN ?_
                    refine cut_id ?_
                    refine ⟨_, (Option.some.inj hh), ?_⟩
                    first | exact ⟨_, _, _, _, _, _, rfl⟩ | (simp only [diptychlaw5_Cell.pv_eq, api_Attr.pv_eq, api_Node.pv_eq, token_Token.pv_eq, piece_flat.pv_eq, place_Spot.pv_eq, diptychref4_Spot.pv_eq, pvL, List.map_cons, List.map_nil, List.map_append, rune1]; exact ⟨_, _, _, _, _, _, rfl⟩) | (simp only [diptychlaw5_Cell.pv_eq, api_Attr.pv_eq, api_Node.pv_eq, token_Token.pv_eq, piece_flat.pv_eq, place_Spot.pv_eq, diptychref4_Spot.pv_eq, pvL, List.map_cons, List.map_nil, List.map_append, rune1, h65, h66, h74, h75, h76]; exact ⟨_, _, _, _, _, _, rfl⟩)
                  · rw [if_neg h76] at hh
                    replace h76 := Bool.eq_false_iff.mpr h76
                    refine awp_false (by first | exact congrArg PV.bool h76 | rfl) ?_
                    refine awp_region fun K kk hK => ?_
                    simp only [go_sem, hl0a, hl0b, hl0d, hl0w]
                    refine hK _ _ fun nx => ?_; clear hK K; try clear kk
                    refine nmx ?_
                    refine fragN ?_
                    refine cut_id ?_
                    refine ⟨_, (Option.some.inj hh), ?_⟩
                    first | exact ⟨_, _, _, _, _, _, rfl⟩ | (simp only [diptychlaw5_Cell.pv_eq, api_Attr.pv_eq, api_Node.pv_eq, token_Token.pv_eq, piece_flat.pv_eq, place_Spot.pv_eq, diptychref4_Spot.pv_eq, pvL, List.map_cons, List.map_nil, List.map_append, rune1]; exact ⟨_, _, _, _, _, _, rfl⟩) | (simp only [diptychlaw5_Cell.pv_eq, api_Attr.pv_eq, api_Node.pv_eq, token_Token.pv_eq, piece_flat.pv_eq, place_Spot.pv_eq, diptychref4_Spot.pv_eq, pvL, List.map_cons, List.map_nil, List.map_append, rune1, h65, h66, h74, h75, h76]; exact ⟨_, _, _, _, _, _, rfl⟩)
            · rintro s ⟨v_60, rfl, nx, g3, g4, g5, g7, g8, rfl⟩
              try dsimp only at hh
              by_cases h77 : (v_60) = true
              · rw [if_pos h77] at hh
                refine awp_true (by first | exact congrArg PV.bool h77 | rfl) ?_
                obtain ⟨pick_61, h78, hh⟩ := bind_ex hh
                obtain ⟨x_62, h79, hh⟩ := bind_ex hh
                obtain ⟨h79a, h79b, h79c⟩ := rd_some h79
                have h79d := rd_get (f := PV.str) h79c
                have h79f := rd_more (f := PV.str) h79c
                try simp only [Int.toNat_natCast, Int.reduceToNat] at h79d h79f
                simp only [List.length_cons, List.length_nil, List.map_cons, List.map_nil, Nat.zero_add, Nat.reduceAdd, reduceCtorEq, not_false_eq_true, and_true, diptychlaw5_Cell.pv_eq, api_Attr.pv_eq, api_Node.pv_eq, token_Token.pv_eq, piece_flat.pv_eq, place_Spot.pv_eq, diptychref4_Spot.pv_eq, pvL] at h79b h79d h79f
                refine awp_first fun K kk hK => ?_
                simp only [go_sem, h79a, h79b, h79d, h79f, hl0a, hl0b, hl0d, hl0w]
                (repeat refine sd ?_)
                refine step_call2 (diptychlaw5_pick_ok _ _ _ h78) (by (try simp only [go_sem, h79a, h79b, h79d, h79f, hl0a, hl0b, hl0d, hl0w]) <;> exact wkl) (by rfl) (by rfl) ?_
                simp only [go_sem, h79a, h79b, h79d, h79f, hl0a, hl0b, hl0d, hl0w]
                (repeat refine sd ?_)
                refine hK _ _ fun nx => ?_; clear hK K; try clear kk
                refine awp_seq ?_
                obtain ⟨e11, f11, hh⟩ := bind_ex hh
                refine awp_frag (fun s => ∃ n_64, n_64 = e11 ∧ ∃ (nx : Nat) (g3 : Nat) (g4 : Nat) (g5 : Nat) (g7 : Nat) (g8 : Nat), s = ⟨[(0, .list 3 (l_1.map diptychlaw5_Cell.pv)), (3, .row 3 g3 [([97] : Str), ([98, 99] : Str), ([195, 169] : Str), ([120, 32, 121] : Str), ([230, 151, 165, 230, 156, 172] : Str)].length), (4, .row 4 g4 [([112, 97, 114, 97] : Str), ([105, 116, 101, 109] : Str), ([108, 105, 115, 116] : Str), ([110, 111, 116, 101] : Str)].length), (5, .row 5 g5 out_27.length), (6, .int .i64 i_26), (7, .box 7 g7 0), (8, .box 8 g8 0)], [(3, g3, .row false 1 ([([97] : Str), ([98, 99] : Str), ([195, 169] : Str), ([120, 32, 121] : Str), ([230, 151, 165, 230, 156, 172] : Str)].map PV.str)), (4, g4, .row false 1 ([([112, 97, 114, 97] : Str), ([105, 116, 101, 109] : Str), ([108, 105, 115, 116] : Str), ([110, 111, 116, 101] : Str)].map PV.str)), (5, g5, .row false 5 (out_27.map api_Node.pv)), (7, g7, .var 114 [.int .i64 y_52.Op, .int .i64 y_52.A, .int .i64 y_52.B]), (8, g8, .var 28 [.str ([116, 101, 120, 116] : Str), .str x_62, .list 1 (n_64.map PV.str), .list 2 ([].map api_Attr.pv), .list 5 ([].map api_Node.pv)])], nx⟩)
                  (fun i s => False)
                  (fun s => False) ?_ ?_ ?_ ?_
                · have hh := f11
                  obtain ⟨pick_63, h80, hh⟩ := bind_ex hh
                  refine awp_first fun K kk hK => ?_
                  simp only [go_sem, hl0a, hl0b, hl0d, hl0w]
                  refine step_call2 (diptychlaw5_pick_ok _ _ _ h80) (by (try simp only [go_sem, hl0a, hl0b, hl0d, hl0w]) <;> exact wkl) (by rfl) (by rfl) ?_
                  simp only [go_sem, hl0a, hl0b, hl0d, hl0w]
                  refine hK _ _ fun nx => ?_; clear hK K; try clear kk
                  by_cases h81 : (pick_63 == (1 : Int)) = true
                  · rw [if_pos h81] at hh
                    refine awp_true (by first | exact congrArg PV.bool h81 | rfl) ?_
                    refine awp_region fun K kk hK => ?_
                    simp only [go_sem, hl0a, hl0b, hl0d, hl0w]
                    refine hK _ _ fun nx => ?_; clear hK K; try clear kk
                    refine nmx ?_
                    refine fragN ?_
                    refine cut_id ?_
                    refine ⟨_, (Option.some.inj hh), ?_⟩
                    first | exact ⟨_, _, _, _, _, _, rfl⟩ | (simp only [diptychlaw5_Cell.pv_eq, api_Attr.pv_eq, api_Node.pv_eq, token_Token.pv_eq, piece_flat.pv_eq, place_Spot.pv_eq, diptychref4_Spot.pv_eq, pvL, List.map_cons, List.map_nil, List.map_append, rune1]; exact ⟨_, _, _, _, _, _, rfl⟩) | (simp only [diptychlaw5_Cell.pv_eq, api_Attr.pv_eq, api_Node.pv_eq, token_Token.pv_eq, piece_flat.pv_eq, place_Spot.pv_eq, diptychref4_Spot.pv_eq, pvL, List.map_cons, List.map_nil, List.map_append, rune1, h65, h66, h77, h81]; exact ⟨_, _, _, _, _, _, rfl⟩)
                  · rw [if_neg h81] at hh
                    replace h81 := Bool.eq_false_iff.mpr h81
                    refine awp_false (by first | exact congrArg PV.bool h81 | rfl) ?_
                    refine awp_skip ?_; refine nmx ?_
                    refine fragN ?_
                    refine cut_to (less_cut _ [0, 3, 4, 5, 6, 7, 8] [3, 4, 5, 7, 8]) ?_
                    refine ⟨_, (Option.some.inj hh), ?_⟩
                    first | exact ⟨_, _, _, _, _, _, rfl⟩ | (simp only [diptychlaw5_Cell.pv_eq, api_Attr.pv_eq, api_Node.pv_eq, token_Token.pv_eq, piece_flat.pv_eq, place_Spot.pv_eq, diptychref4_Spot.pv_eq, pvL, List.map_cons, List.map_nil, List.map_append, rune1]; exact ⟨_, _, _, _, _, _, rfl⟩) | (simp only [diptychlaw5_Cell.pv_eq, api_Attr.pv_eq, api_Node.pv_eq, token_Token.pv_eq, piece_flat.pv_eq, place_Spot.pv_eq, diptychref4_Spot.pv_eq, pvL, List.map_cons, List.map_nil, List.map_append, rune1, h65, h66, h77, h81]; exact ⟨_, _, _, _, _, _, rfl⟩)
                · rintro s ⟨n_64, rfl, nx, g3, g4, g5, g7, g8, rfl⟩
                  try dsimp only at hh
                  obtain ⟨pick_65, h82, hh⟩ := bind_ex hh
                  refine awp_first fun K kk hK => ?_
                  simp only [go_sem, hl0a, hl0b, hl0d, hl0w]
                  refine step_call2 (diptychlaw5_pick_ok _ _ _ h82) (by (try simp only [go_sem, hl0a, hl0b, hl0d, hl0w]) <;> exact wkl) (by rfl) (by rfl) ?_
                  simp only [go_sem, hl0a, hl0b, hl0d, hl0w]
                  refine hK _ _ fun nx => ?_; clear hK K; try clear kk
                  by_cases h83 : (pick_65 == (2 : Int)) = true
                  · rw [if_pos h83] at hh
                    refine awp_true (by first | exact congrArg PV.bool h83 | rfl) ?_
                    refine awp_region fun K kk hK => ?_
                    simp only [go_sem, hl0a, hl0b, hl0d, hl0w]
                    refine hK _ _ fun nx => ?_; clear hK K; try clear kk
                    refine nmx ?_
                    obtain ⟨l_66, h84, hh⟩ := bind_ex hh
                    obtain ⟨h84a, h84c⟩ := app_some h84
                    have h84d := app_map (f := api_Node.pv) h84c
                    have h84e := app_len h84c
                    try simp only [List.length_cons, List.length_nil, Nat.zero_add, Nat.reduceAdd] at h84a h84e
                    try simp only [h84e] at h84a
                    try simp only [List.map_cons, List.map_nil, List.nil_append, List.append_nil, List.cons_append, List.singleton_append, rune1, diptychlaw5_Cell.pv_eq, api_Attr.pv_eq, api_Node.pv_eq, token_Token.pv_eq, piece_flat.pv_eq, place_Spot.pv_eq, diptychref4_Spot.pv_eq, pvL] at h84d
                    refine awp_region fun K kk hK => ?_
                    simp only [go_sem, h84a, h84d, h84e, hl0a, hl0b, hl0d, hl0w]
                    (repeat refine sd ?_)
                    refine hK _ _ fun nx => ?_; clear hK K; try clear kk
                    refine nmx ?_
                    refine awp_region fun K kk hK => ?_
                    simp only [go_sem, hl0a, hl0b, hl0d, hl0w]
                    refine hK _ _ fun nx => ?_; clear hK K; try clear kk
                    refine nmx ?_
                    have ih' := ih (pre ++ [y_52]) (i_26 + 1) _ (by rw [hsplit]; simp) (by simp [hidx]) hh nx
                    refine cut_id ?_
                    first | exact ih' _ _ _ | (simp only [diptychlaw5_Cell.pv_eq, api_Attr.pv_eq, api_Node.pv_eq, token_Token.pv_eq, piece_flat.pv_eq, place_Spot.pv_eq, diptychref4_Spot.pv_eq, pvL, List.map_cons, List.map_nil, List.map_append, rune1, h84e] at ih' ⊢; exact ih' _ _ _) | (simp only [diptychlaw5_Cell.pv_eq, api_Attr.pv_eq, api_Node.pv_eq, token_Token.pv_eq, piece_flat.pv_eq, place_Spot.pv_eq, diptychref4_Spot.pv_eq, pvL, List.map_cons, List.map_nil, List.map_append, rune1, h84e, h65, h66, h77, h83] at ih' ⊢; exact ih' _ _ _)
                  · rw [if_neg h83] at hh
                    replace h83 := Bool.eq_false_iff.mpr h83
                    refine awp_false (by first | exact congrArg PV.bool h83 | rfl) ?_
                    refine awp_skip ?_; refine nmx ?_
                    obtain ⟨l_67, h85, hh⟩ := bind_ex hh
                    obtain ⟨h85a, h85c⟩ := app_some h85
                    have h85d := app_map (f := api_Node.pv) h85c
                    have h85e := app_len h85c
                    try simp only [List.length_cons, List.length_nil, Nat.zero_add, Nat.reduceAdd] at h85a h85e
                    try simp only [h85e] at h85a
                    try simp only [List.map_cons, List.map_nil, List.nil_append, List.append_nil, List.cons_append, List.singleton_append, rune1, diptychlaw5_Cell.pv_eq, api_Attr.pv_eq, api_Node.pv_eq, token_Token.pv_eq, piece_flat.pv_eq, place_Spot.pv_eq, diptychref4_Spot.pv_eq, pvL] at h85d
                    refine awp_region fun K kk hK => ?_
                    simp only [go_sem, h85a, h85d, h85e, hl0a, hl0b, hl0d, hl0w]
                    (repeat refine sd ?_)
                    refine hK _ _ fun nx => ?_; clear hK K; try clear kk
                    refine nmx ?_
                    refine awp_region fun K kk hK => ?_
                    simp only [go_sem, hl0a, hl0b, hl0d, hl0w]
                    refine hK _ _ fun nx => ?_; clear hK K; try clear kk
                    refine nmx ?_
                    have ih' := ih (pre ++ [y_52]) (i_26 + 1) _ (by rw [hsplit]; simp) (by simp [hidx]) hh nx
                    refine cut_id ?_
                    first | exact ih' _ _ _ | (simp only [diptychlaw5_Cell.pv_eq, api_Attr.pv_eq, api_Node.pv_eq, token_Token.pv_eq, piece_flat.pv_eq, place_Spot.pv_eq, diptychref4_Spot.pv_eq, pvL, List.map_cons, List.map_nil, List.map_append, rune1, h85e] at ih' ⊢; exact ih' _ _ _) | (simp only [diptychlaw5_Cell.pv_eq, api_Attr.pv_eq, api_Node.pv_eq, token_Token.pv_eq, piece_flat.pv_eq, place_Spot.pv_eq, diptychref4_Spot.pv_eq, pvL, List.map_cons, List.map_nil, List.map_append, rune1, h85e, h65, h66, h77, h83] at ih' ⊢; exact ih' _ _ _)
                · intro i s h; exact h.elim
                · intro s h; exact h.elim
              · rw [if_neg h77] at hh
                replace h77 := Bool.eq_false_iff.mpr h77
                refine awp_false (by first | exact congrArg PV.bool h77 | rfl) ?_
                refine awp_seq ?_
                obtain ⟨e12, f12, hh⟩ := bind_ex hh
                refine awp_frag (fun s => ∃ v_68, v_68 = e12 ∧ ∃ (nx : Nat) (g3 : Nat) (g4 : Nat) (g5 : Nat) (g7 : Nat) (g8 : Nat), s = ⟨[(0, .list 3 (l_1.map diptychlaw5_Cell.pv)), (3, .row 3 g3 [([97] : Str), ([98, 99] : Str), ([195, 169] : Str), ([120, 32, 121] : Str), ([230, 151, 165, 230, 156, 172] : Str)].length), (4, .row 4 g4 [([112, 97, 114, 97] : Str), ([105, 116, 101, 109] : Str), ([108, 105, 115, 116] : Str), ([110, 111, 116, 101] : Str)].length), (5, .row 5 g5 out_27.length), (6, .int .i64 i_26), (7, .box 7 g7 0), (8, .box 8 g8 0), (74, .bool v_68)], [(3, g3, .row false 1 ([([97] : Str), ([98, 99] : Str), ([195, 169] : Str), ([120, 32, 121] : Str), ([230, 151, 165, 230, 156, 172] : Str)].map PV.str)), (4, g4, .row false 1 ([([112, 97, 114, 97] : Str), ([105, 116, 101, 109] : Str), ([108, 105, 115, 116] : Str), ([110, 111, 116, 101] : Str)].map PV.str)), (5, g5, .row false 5 (out_27.map api_Node.pv)), (7, g7, .var 114 [.int .i64 y_52.Op, .int .i64 y_52.A, .int .i64 y_52.B]), (8, g8, .var 28 [.str x_54, .str ([] : Str), .list 1 ([].map PV.str), .list 2 (n_58.map api_Attr.pv), .list 5 ([].map api_Node.pv)])], nx⟩)
                  (fun i s => False)
                  (fun s => False) ?_ ?_ ?_ ?_
                · have hh := f12
                  refine awp_first fun K kk hK => ?_
                  simp only [go_sem, hl0a, hl0b, hl0d, hl0w]
                  refine hK _ _ fun nx => ?_; clear hK K; try clear kk
                  by_cases h86 : (pick_59 == (4 : Int)) = true
                  · rw [if_pos h86] at hh
                    refine awp_true (by first | exact congrArg PV.bool h86 | rfl) ?_
                    refine awp_skip ?_; refine nmx ?_
                    refine fragN ?_
                    refine cut_to (less_cut _ [0, 3, 4, 5, 6, 7, 8, 74] [3, 4, 5, 7, 8]) ?_
                    refine ⟨_, (Option.some.inj hh), ?_⟩
                    first | exact ⟨_, _, _, _, _, _, rfl⟩ | (simp only [diptychlaw5_Cell.pv_eq, api_Attr.pv_eq, api_Node.pv_eq, token_Token.pv_eq, piece_flat.pv_eq, place_Spot.pv_eq, diptychref4_Spot.pv_eq, pvL, List.map_cons, List.map_nil, List.map_append, rune1]; exact ⟨_, _, _, _, _, _, rfl⟩) | (simp only [diptychlaw5_Cell.pv_eq, api_Attr.pv_eq, api_Node.pv_eq, token_Token.pv_eq, piece_flat.pv_eq, place_Spot.pv_eq, diptychref4_Spot.pv_eq, pvL, List.map_cons, List.map_nil, List.map_append, rune1, h65, h66, h77, h86]; exact ⟨_, _, _, _, _, _, rfl⟩)
                  · rw [if_neg h86] at hh
                    replace h86 := Bool.eq_false_iff.mpr h86
                    refine awp_false (by first | exact congrArg PV.bool h86 | rfl) ?_
                    refine awp_first fun K kk hK => ?_
                    simp only [go_sem, hl0a, hl0b, hl0d, hl0w]
                    refine hK _ _ fun nx => ?_; clear hK K; try clear kk
                    by_cases h87 : (pick_59 == (5 : Int)) = true
                    · rw [if_pos h87] at hh
                      refine awp_true (by first | exact congrArg PV.bool h87 | rfl) ?_
                      refine awp_skip ?_; refine nmx ?_
                      refine fragN ?_
                      refine cut_to (less_cut _ [0, 3, 4, 5, 6, 7, 8, 74] [3, 4, 5, 7, 8]) ?_
                      refine ⟨_, (Option.some.inj hh), ?_⟩
                      first | exact ⟨_, _, _, _, _, _, rfl⟩ | (simp only [diptychlaw5_Cell.pv_eq, api_Attr.pv_eq, api_Node.pv_eq, token_Token.pv_eq, piece_flat.pv_eq, place_Spot.pv_eq, diptychref4_Spot.pv_eq, pvL, List.map_cons, List.map_nil, List.map_append, rune1]; exact ⟨_, _, _, _, _, _, rfl⟩) | (simp only [diptychlaw5_Cell.pv_eq, api_Attr.pv_eq, api_Node.pv_eq, token_Token.pv_eq, piece_flat.pv_eq, place_Spot.pv_eq, diptychref4_Spot.pv_eq, pvL, List.map_cons, List.map_nil, List.map_append, rune1, h65, h66, h77, h86, h87]; exact ⟨_, _, _, _, _, _, rfl⟩)
                    · rw [if_neg h87] at hh
                      replace h87 := Bool.eq_false_iff.mpr h87
                      refine awp_false (by first | exact congrArg PV.bool h87 | rfl) ?_
                      refine awp_region fun K kk hK => ?_
                      simp only [go_sem, hl0a, hl0b, hl0d, hl0w]
                      refine hK _ _ fun nx => ?_; clear hK K; try clear kk
                      refine nmx ?_
                      refine fragN ?_
                      refine cut_id ?_
                      refine ⟨_, (Option.some.inj hh), ?_⟩
                      first | exact ⟨_, _, _, _, _, _, rfl⟩ | (simp only [diptychlaw5_Cell.pv_eq, api_Attr.pv_eq, api_Node.pv_eq, token_Token.pv_eq, piece_flat.pv_eq, place_Spot.pv_eq, diptychref4_Spot.pv_eq, pvL, List.map_cons, List.map_nil, List.map_append, rune1]; exact ⟨_, _, _, _, _, _, rfl⟩) | (simp only [diptychlaw5_Cell.pv_eq, api_Attr.pv_eq, api_Node.pv_eq, token_Token.pv_eq, piece_flat.pv_eq, place_Spot.pv_eq, diptychref4_Spot.pv_eq, pvL, List.map_cons, List.map_nil, List.map_append, rune1, h65, h66, h77, h86, h87]; exact ⟨_, _, _, _, _, _, rfl⟩)
                · rintro s ⟨v_68, rfl, nx, g3, g4, g5, g7, g8, rfl⟩
                  try dsimp only at hh
                  by_cases h88 : (v_68) = true
                  · rw [if_pos h88] at hh
                    refine awp_true (by first | exact congrArg PV.bool h88 | rfl) ?_
                    obtain ⟨pick_69, h89, hh⟩ := bind_ex hh
                    refine awp_first fun K kk hK => ?_
                    simp only [go_sem, hl0a, hl0b, hl0d, hl0w]
                    refine step_call2 (diptychlaw5_pick_ok _ _ _ h89) (by (try simp only [go_sem, hl0a, hl0b, hl0d, hl0w]) <;> exact wkl) (by rfl) (by rfl) ?_
                    simp only [go_sem, hl0a, hl0b, hl0d, hl0w]
                    refine hK _ _ fun nx => ?_; clear hK K; try clear kk
                    obtain ⟨s_70, h90, hh⟩ := bind_ex hh
                    obtain ⟨h90a, h90c⟩ := sl_some h90
                    have h90g := sl_le h90a
                    have h90d := sl_map1 (f := api_Node.pv) h90c
                    try simp only [Int.toNat_natCast, Int.reduceToNat, List.map_cons, List.map_nil, diptychlaw5_Cell.pv_eq, api_Attr.pv_eq, api_Node.pv_eq, token_Token.pv_eq, piece_flat.pv_eq, place_Spot.pv_eq, diptychref4_Spot.pv_eq, pvL] at h90d
                    obtain ⟨join_71, h91, hh⟩ := bind_ex hh
                    refine awp_first fun K kk hK => ?_
                    simp only [go_sem, h90a.1, h90a.2.1, h90a.2.2, h90d, h90g, hl0a, hl0b, hl0d, hl0w]
                    (repeat refine sd ?_)
                    refine step_call2 (diptychref1_Join_ok _ _ h91).list (by (try simp only [go_sem, h90a.1, h90a.2.1, h90a.2.2, h90d, h90g, hl0a, hl0b, hl0d, hl0w]) <;> exact wkl) (by rfl) (by rfl) ?_
                    simp only [go_sem, h90a.1, h90a.2.1, h90a.2.2, h90d, h90g, hl0a, hl0b, hl0d, hl0w]
                    (repeat refine sd ?_)
                    refine hK _ _ fun nx => ?_; clear hK K; try clear kk
                    obtain ⟨s_72, h92, hh⟩ := bind_ex hh
                    obtain ⟨h92a, h92c⟩ := sl_some h92
                    have h92g := sl_le h92a
                    have h92d := sl_map0 (f := api_Node.pv) h92c
                    try simp only [Int.toNat_natCast, Int.reduceToNat, List.map_cons, List.map_nil, diptychlaw5_Cell.pv_eq, api_Attr.pv_eq, api_Node.pv_eq, token_Token.pv_eq, piece_flat.pv_eq, place_Spot.pv_eq, diptychref4_Spot.pv_eq, pvL] at h92d
                    obtain ⟨l_73, h93, hh⟩ := bind_ex hh
                    obtain ⟨h93a, h93c⟩ := app_some h93
                    have h93d := app_map (f := api_Node.pv) h93c
                    have h93e := app_len h93c
                    try simp only [List.length_cons, List.length_nil, Nat.zero_add, Nat.reduceAdd] at h93a h93e
                    try simp only [h93e] at h93a
                    try simp only [List.map_cons, List.map_nil, List.nil_append, List.append_nil, List.cons_append, List.singleton_append, rune1, diptychlaw5_Cell.pv_eq, api_Attr.pv_eq, api_Node.pv_eq, token_Token.pv_eq, piece_flat.pv_eq, place_Spot.pv_eq, diptychref4_Spot.pv_eq, pvL] at h93d
                    refine awp_region fun K kk hK => ?_
                    simp only [go_sem, h92a.1, h92a.2.1, h92a.2.2, h92d, h92g, h93a, h93d, h93e, hl0a, hl0b, hl0d, hl0w]
                    (repeat refine sd ?_)
                    refine hK _ _ fun nx => ?_; clear hK K; try clear kk
                    refine nmx ?_
                    obtain ⟨l_74, h94, hh⟩ := bind_ex hh
                    obtain ⟨h94a, h94c⟩ := app_some h94
                    have h94d := app_map (f := api_Node.pv) h94c
                    have h94e := app_len h94c
                    try simp only [List.length_cons, List.length_nil, Nat.zero_add, Nat.reduceAdd] at h94a h94e
                    try simp only [h94e] at h94a
                    try simp only [List.map_cons, List.map_nil, List.nil_append, List.append_nil, List.cons_append, List.singleton_append, rune1, diptychlaw5_Cell.pv_eq, api_Attr.pv_eq, api_Node.pv_eq, token_Token.pv_eq, piece_flat.pv_eq, place_Spot.pv_eq, diptychref4_Spot.pv_eq, pvL] at h94d
                    refine awp_region fun K kk hK => ?_
                    simp only [go_sem, h94a, h94d, h94e, hl0a, hl0b, hl0d, hl0w]
                    (repeat refine sd ?_)
                    refine hK _ _ fun nx => ?_; clear hK K; try clear kk
                    refine nmx ?_
                    refine awp_region fun K kk hK => ?_
                    simp only [go_sem, hl0a, hl0b, hl0d, hl0w]
                    refine hK _ _ fun nx => ?_; clear hK K; try clear kk
                    refine nmx ?_
                    have ih' := ih (pre ++ [y_52]) (i_26 + 1) _ (by rw [hsplit]; simp) (by simp [hidx]) hh nx
                    refine cut_id ?_
                    first | exact ih' _ _ _ | (simp only [diptychlaw5_Cell.pv_eq, api_Attr.pv_eq, api_Node.pv_eq, token_Token.pv_eq, piece_flat.pv_eq, place_Spot.pv_eq, diptychref4_Spot.pv_eq, pvL, List.map_cons, List.map_nil, List.map_append, rune1, h93e, h93d, h94e] at ih' ⊢; exact ih' _ _ _) | (simp only [diptychlaw5_Cell.pv_eq, api_Attr.pv_eq, api_Node.pv_eq, token_Token.pv_eq, piece_flat.pv_eq, place_Spot.pv_eq, diptychref4_Spot.pv_eq, pvL, List.map_cons, List.map_nil, List.map_append, rune1, h93e, h93d, h94e, h65, h66, h77, h88] at ih' ⊢; exact ih' _ _ _)
                  · rw [if_neg h88] at hh
                    replace h88 := Bool.eq_false_iff.mpr h88
                    refine awp_false (by first | exact congrArg PV.bool h88 | rfl) ?_
                    refine awp_skip ?_; refine nmx ?_
                    obtain ⟨l_75, h95, hh⟩ := bind_ex hh
                    obtain ⟨h95a, h95c⟩ := app_some h95
                    have h95d := app_map (f := api_Node.pv) h95c
                    have h95e := app_len h95c
                    try simp only [List.length_cons, List.length_nil, Nat.zero_add, Nat.reduceAdd] at h95a h95e
                    try simp only [h95e] at h95a
                    try simp only [List.map_cons, List.map_nil, List.nil_append, List.append_nil, List.cons_append, List.singleton_append, rune1, diptychlaw5_Cell.pv_eq, api_Attr.pv_eq, api_Node.pv_eq, token_Token.pv_eq, piece_flat.pv_eq, place_Spot.pv_eq, diptychref4_Spot.pv_eq, pvL] at h95d
                    refine awp_region fun K kk hK => ?_
                    simp only [go_sem, h95a, h95d, h95e, hl0a, hl0b, hl0d, hl0w]
                    (repeat refine sd ?_)
                    refine hK _ _ fun nx => ?_; clear hK K; try clear kk
                    refine nmx ?_
                    refine awp_region fun K kk hK => ?_
                    simp only [go_sem, hl0a, hl0b, hl0d, hl0w]
                    refine hK _ _ fun nx => ?_; clear hK K; try clear kk
                    refine nmx ?_
                    have ih' := ih (pre ++ [y_52]) (i_26 + 1) _ (by rw [hsplit]; simp) (by simp [hidx]) hh nx
                    refine cut_id ?_
                    first | exact ih' _ _ _ | (simp only [diptychlaw5_Cell.pv_eq, api_Attr.pv_eq, api_Node.pv_eq, token_Token.pv_eq, piece_flat.pv_eq, place_Spot.pv_eq, diptychref4_Spot.pv_eq, pvL, List.map_cons, List.map_nil, List.map_append, rune1, h95e] at ih' ⊢; exact ih' _ _ _) | (simp only [diptychlaw5_Cell.pv_eq, api_Attr.pv_eq, api_Node.pv_eq, token_Token.pv_eq, piece_flat.pv_eq, place_Spot.pv_eq, diptychref4_Spot.pv_eq, pvL, List.map_cons, List.map_nil, List.map_append, rune1, h95e, h65, h66, h77, h88] at ih' ⊢; exact ih' _ _ _)
                · intro i s h; exact h.elim
                · intro s h; exact h.elim
            · intro i s h; exact h.elim
            · intro s h; exact h.elim
          · intro i s h; exact h.elim
          · intro s h; exact h.elim
        · rw [if_neg h66] at hh
          replace h66 := Bool.eq_false_iff.mpr h66
          refine awp_false (by first | exact congrArg PV.bool h66 | rfl) ?_
          refine awp_exit ?_; refine nmx ?_
          refine fragN ?_
          refine cut_id ?_
          refine ⟨_, (Option.some.inj hh), ?_⟩
          first | exact ⟨_, _, _, _, _, _, rfl⟩ | (simp only [diptychlaw5_Cell.pv_eq, api_Attr.pv_eq, api_Node.pv_eq, token_Token.pv_eq, piece_flat.pv_eq, place_Spot.pv_eq, diptychref4_Spot.pv_eq, pvL, List.map_cons, List.map_nil, List.map_append, rune1]; exact ⟨_, _, _, _, _, _, rfl⟩) | (simp only [diptychlaw5_Cell.pv_eq, api_Attr.pv_eq, api_Node.pv_eq, token_Token.pv_eq, piece_flat.pv_eq, place_Spot.pv_eq, diptychref4_Spot.pv_eq, pvL, List.map_cons, List.map_nil, List.map_append, rune1, h65, h66]; exact ⟨_, _, _, _, _, _, rfl⟩)
    exact key l_1 [] _ _ rfl rfl f0 _ _ _ _
  · rintro s ⟨t, hless, out_78, rfl, i_76, v_77, nx, g3, g4, g5, rfl⟩
    try dsimp only at hh
    refine nmy ?_
    first | (refine cut_less hless ?_; try refine cut_awp ?_) | refine frag_less hless ?_ | refine body_less hless ?_
    obtain ⟨join_79, h96, hh⟩ := bind_ex hh
    refine awp_first fun K kk hK => ?_
    simp only [go_sem]
    refine step_call2 (diptychref1_Join_ok _ _ h96).list (by (try simp only [go_sem]) <;> exact wkl) (by rfl) (by rfl) ?_
    simp only [go_sem]
    refine hK _ _ fun nx => ?_; clear hK K; try clear kk
    refine awp_ret ?_; refine nmx ?_
    obtain hR := Option.some.inj hh
    subst hR
    exact ret_p2
  · intro i s h; exact h.elim
  · intro s h; exact h.elim
theorem diptychlaw5_doc_ok (l_1 : (List diptychlaw5_Cell)) (R : api_Node) (hh : diptychlaw5_doc l_1 = some R) : PC Tryd.prog 37 [.list 3 (l_1.map diptychlaw5_Cell.pv)] (.agg [.str R.Kind, .str R.Text, .list 1 (R.Marks.map PV.str), .list 2 (R.Attrs.map api_Attr.pv), .list 5 (R.Kids.map api_Node.pv)]) := by
  rw [diptychlaw5_doc] at hh
  refine start_diptychlaw5_doc rfl ?_
  refine awp_first fun K kk hK => ?_
  simp only [go_sem]
  refine hK _ _ fun nx => ?_; clear hK K; try clear kk
  obtain ⟨made_2, h1, hh⟩ := bind_ex hh
  refine awp_first fun K kk hK => ?_
  simp only [go_sem]
  refine step_call2 (diptychlaw5_made_ok _ _ h1) (by (try simp only [go_sem]) <;> exact wkl) (by rfl) (by rfl) ?_
  simp only [go_sem]
  refine hK _ _ fun nx => ?_; clear hK K; try clear kk
  refine awp_ret ?_; refine nmx ?_
  obtain hR := Option.some.inj hh
  subst hR
  exact ret_p2
theorem diptychref4_same_ok (a_1 : (List Int)) (b_2 : (List Int)) (R : Bool) (hh : diptychref4_same a_1 b_2 = some R) : PC Tryd.prog 99 [.list 1 (a_1.map (PV.int .i64)), .list 1 (b_2.map (PV.int .i64))] (.bool R) := by
  rw [diptychref4_same] at hh
  refine start_diptychref4_same rfl ?_
  refine awp_first fun K kk hK => ?_
  simp only [go_sem]
  refine hK _ _ fun nx => ?_; clear hK K; try clear kk
  refine awp_seq ?_
  refine awp_first fun K kk hK => ?_
  simp only [go_sem]
  refine hK _ _ fun nx => ?_; clear hK K; try clear kk
  by_cases h1 : ((a_1.length : Int) != (b_2.length : Int)) = true
  · rw [if_pos h1] at hh
    refine awp_true (by first | exact congrArg PV.bool h1 | rfl) ?_
    refine awp_first fun K kk hK => ?_
    simp only [go_sem]
    refine hK _ _ fun nx => ?_; clear hK K; try clear kk
    refine awp_ret ?_; refine nmx ?_
    obtain hR := Option.some.inj hh
    subst hR
    exact ret_p2
  · rw [if_neg h1] at hh
    replace h1 := Bool.eq_false_iff.mpr h1
    refine awp_false (by first | exact congrArg PV.bool h1 | rfl) ?_
    refine awp_skip ?_; refine nmx ?_
    refine awp_seq ?_
    refine awp_first fun K kk hK => ?_
    simp only [go_sem]
    refine hK _ _ fun nx => ?_; clear hK K; try clear kk
    obtain ⟨e0, f0, hh⟩ := bind_ex hh
    obtain ⟨hlen0, f0⟩ := chk_some f0
    refine awp_fragE (CutTo (fun s => .inr () = e0 ∧ ∃ (i_11 : Int) (v_12 : Bool) (nx : Nat), s = ⟨[(0, .list 1 (a_1.map (PV.int .i64))), (1, .list 1 (b_2.map (PV.int .i64))), (5, .int .i64 i_11), (14, .bool v_12)], [], nx⟩))
      (fun i s => False)
      (fun s => ∃ res_10, .inl res_10 = e0 ∧ bodyR Tryd.prog [.tmp 4] (.bool res_10) [] .ret s) ?_ ?_ ?_ ?_
    · refine awp_block ?_
      refine awp_loopJ fun I hI => ?_
      have key : ∀ (suf pre : List Int) (i_5 : Int), a_1 = pre ++ suf → i_5 = (pre.length : Int) → diptychref4_same_l0 b_2 suf i_5 = some e0 → ∀ (nx : Nat), I ⟨[(0, .list 1 (a_1.map (PV.int .i64))), (1, .list 1 (b_2.map (PV.int .i64))), (5, .int .i64 i_5)], [], nx⟩ := by
        intro suf
        induction suf with
        | nil =>
          intro pre i_5 hsplit hidx hh nx
          rw [diptychref4_same_l0] at hh
          refine hI _ ?_
          have h10 := walk_nil hsplit hidx
          refine awp_seq ?_
          refine awp_first fun K kk hK => ?_
          simp only [go_sem]
          refine hK _ _ fun nx => ?_; clear hK K; try clear kk
          refine awp_false (by first | exact congrArg PV.bool h10 | rfl) ?_
          refine awp_exit ?_; refine nmx ?_
          refine fragN ?_
          refine cut_id ?_
          refine ⟨(Option.some.inj hh), ?_⟩
          first | exact ⟨_, _, _, rfl⟩ | (simp only [diptychlaw5_Cell.pv_eq, api_Attr.pv_eq, api_Node.pv_eq, token_Token.pv_eq, piece_flat.pv_eq, place_Spot.pv_eq, diptychref4_Spot.pv_eq, pvL, List.map_cons, List.map_nil, List.map_append, rune1]; exact ⟨_, _, _, rfl⟩) | (simp only [diptychlaw5_Cell.pv_eq, api_Attr.pv_eq, api_Node.pv_eq, token_Token.pv_eq, piece_flat.pv_eq, place_Spot.pv_eq, diptychref4_Spot.pv_eq, pvL, List.map_cons, List.map_nil, List.map_append, rune1, h1, h10]; exact ⟨_, _, _, rfl⟩)
        | cons y_8 suf ih =>
          intro pre i_5 hsplit hidx hh nx
          rw [diptychref4_same_l0] at hh
          refine hI _ ?_
          obtain ⟨hl0a, hl0b, hl0d, hl0w, h10⟩ := walk_cons (f := (PV.int .i64)) hsplit hidx hlen0
          refine awp_seq ?_
          refine awp_first fun K kk hK => ?_
          simp only [go_sem]
          refine hK _ _ fun nx => ?_; clear hK K; try clear kk
          refine awp_true (by first | exact congrArg PV.bool h10 | rfl) ?_
          refine awp_skip ?_; refine nmx ?_
          refine awp_seq ?_
          refine awp_block ?_
          obtain ⟨x_9, h11, hh⟩ := bind_ex hh
          obtain ⟨h11a, h11b, h11c⟩ := rd_some h11
          have h11d := rd_get (f := (PV.int .i64)) h11c
          have h11f := rd_more (f := (PV.int .i64)) h11c
          try simp only [Int.toNat_natCast, Int.reduceToNat] at h11d h11f
          refine awp_first fun K kk hK => ?_
          simp only [go_sem, h11a, h11b, h11d, h11f.1, h11f.2, hl0a, hl0b, hl0d, hl0w]
          (repeat refine sd ?_)
          refine hK _ _ fun nx => ?_; clear hK K; try clear kk
          by_cases h12 : (y_8 != x_9) = true
          · rw [if_pos h12] at hh
            refine awp_true (by first | exact congrArg PV.bool h12 | rfl) ?_
            refine awp_first fun K kk hK => ?_
            simp only [go_sem, hl0a, hl0b, hl0d, hl0w]
            refine hK _ _ fun nx => ?_; clear hK K; try clear kk
            refine awp_ret ?_; refine nmx ?_
            refine fragR ⟨_, (Option.some.inj hh), ?_⟩
            exact ret_p2
          · rw [if_neg h12] at hh
            replace h12 := Bool.eq_false_iff.mpr h12
            refine awp_false (by first | exact congrArg PV.bool h12 | rfl) ?_
            refine awp_skip ?_; refine nmx ?_
            refine awp_region fun K kk hK => ?_
            simp only [go_sem, hl0a, hl0b, hl0d, hl0w]
            refine hK _ _ fun nx => ?_; clear hK K; try clear kk
            refine nmx ?_
            have ih' := ih (pre ++ [y_8]) (i_5 + 1) (by rw [hsplit]; simp) (by simp [hidx]) hh nx
            refine cut_id ?_
            first | exact ih' | (simp only [diptychlaw5_Cell.pv_eq, api_Attr.pv_eq, api_Node.pv_eq, token_Token.pv_eq, piece_flat.pv_eq, place_Spot.pv_eq, diptychref4_Spot.pv_eq, pvL, List.map_cons, List.map_nil, List.map_append, rune1] at ih' ⊢; exact ih') | (simp only [diptychlaw5_Cell.pv_eq, api_Attr.pv_eq, api_Node.pv_eq, token_Token.pv_eq, piece_flat.pv_eq, place_Spot.pv_eq, diptychref4_Spot.pv_eq, pvL, List.map_cons, List.map_nil, List.map_append, rune1, h1, h10, h12] at ih' ⊢; exact ih')
      exact key a_1 [] _ rfl rfl f0 _
    · rintro s ⟨t, hless, rfl, i_11, v_12, nx, rfl⟩
      try dsimp only at hh
      refine nmy ?_
      first | (refine cut_less hless ?_; try refine cut_awp ?_) | refine frag_less hless ?_ | refine body_less hless ?_
      refine awp_first fun K kk hK => ?_
      simp only [go_sem]
      refine hK _ _ fun nx => ?_; clear hK K; try clear kk
      refine awp_ret ?_; refine nmx ?_
      obtain hR := Option.some.inj hh
      subst hR
      exact ret_p2
    · intro i s h; exact h.elim
    · rintro s ⟨res_10, rfl, hb⟩
      try dsimp only at hh
      obtain hR := Option.some.inj hh
      subst hR
      refine nmx ?_
      exact hb
theorem diptychref4_Same_ok (a_1 : diptychref4_Spot) (b_2 : diptychref4_Spot) (R : Bool) (hh : diptychref4_Same a_1 b_2 = some R) : PC Tryd.prog 78 [.agg [.list 1 (a_1.Path.map (PV.int .i64)), .int .i64 a_1.Index, .int .i64 a_1.Offset], .agg [.list 1 (b_2.Path.map (PV.int .i64)), .int .i64 b_2.Index, .int .i64 b_2.Offset]] (.bool R) := by
  rw [diptychref4_Same] at hh
  refine start_diptychref4_Same rfl ?_
  refine awp_first fun K kk hK => ?_
  simp only [go_sem]
  refine hK _ _ fun nx => ?_; clear hK K; try clear kk
  obtain ⟨same_3, h1, hh⟩ := bind_ex hh
  by_cases h2 : (same_3) = true
  · rw [if_pos h2] at hh
    by_cases h3 : (a_1.Index == b_2.Index) = true
    · rw [if_pos h3] at hh
      refine awp_first fun K kk hK => ?_
      simp only [go_sem, h2, h2, h3, h3]
      (repeat refine sd ?_)
      refine step_call2 (diptychref4_same_ok _ _ _ h1) (by (try simp only [go_sem, h2, h2, h3, h3]) <;> exact wkl) (by rfl) (by rfl) ?_
      simp only [go_sem, h2, h2, h3, h3]
      (repeat refine sd ?_)
      refine hK _ _ fun nx => ?_; clear hK K; try clear kk
      refine awp_ret ?_; refine nmx ?_
      obtain hR := Option.some.inj hh
      subst hR
      exact ret_p2
    · rw [if_neg h3] at hh
      replace h3 := Bool.eq_false_iff.mpr h3
      refine awp_first fun K kk hK => ?_
      simp only [go_sem, h2, h2, h3, h3]
      (repeat refine sd ?_)
      refine step_call2 (diptychref4_same_ok _ _ _ h1) (by (try simp only [go_sem, h2, h2, h3, h3]) <;> exact wkl) (by rfl) (by rfl) ?_
      simp only [go_sem, h2, h2, h3, h3]
      (repeat refine sd ?_)
      refine hK _ _ fun nx => ?_; clear hK K; try clear kk
      refine awp_ret ?_; refine nmx ?_
      obtain hR := Option.some.inj hh
      subst hR
      exact ret_p2
  · rw [if_neg h2] at hh
    replace h2 := Bool.eq_false_iff.mpr h2
    refine awp_first fun K kk hK => ?_
    simp only [go_sem, h2, h2]
    (repeat refine sd ?_)
    refine step_call2 (diptychref4_same_ok _ _ _ h1) (by (try simp only [go_sem, h2, h2]) <;> exact wkl) (by rfl) (by rfl) ?_
    simp only [go_sem, h2, h2]
    (repeat refine sd ?_)
    refine hK _ _ fun nx => ?_; clear hK K; try clear kk
    refine awp_ret ?_; refine nmx ?_
    obtain hR := Option.some.inj hh
    subst hR
    exact ret_p2

end Go.Proofs.YtblielhogcnnkaaDoor
