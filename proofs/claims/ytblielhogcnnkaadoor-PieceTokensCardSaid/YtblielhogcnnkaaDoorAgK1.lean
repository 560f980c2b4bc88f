/- What the functions answer, the program answers (1). -/
import Derived.Test.YtblielhogcnnkaaDoorAgC
import Derived.Test.YtblielhogcnnkaaDoorAgF
import Derived.Test.YtblielhogcnnkaaDoorAgK0
import Derived.Test.YtblielhogcnnkaaDoorAgL
namespace Go.Proofs.YtblielhogcnnkaaDoor
set_option linter.unusedSimpArgs false
set_option linter.unusedVariables false
open Go
set_option maxRecDepth 100000

theorem node_Join_ok (l_1 : (List api_Node)) (R : (List api_Node)) (hh : node_Join l_1 = some R) : PC Tryd.prog 36 [.list 5 (l_1.map api_Node.pv)] (.own 5 (R.map api_Node.pv)) := by
  rw [node_Join] at hh
  refine start_node_Join rfl ?_
  refine awp_first fun K kk hK => ?_
  simp only [go_sem]
  refine hK _ _ fun nx => ?_; clear hK K; try clear kk
  refine awp_first fun K kk hK => ?_
  simp only [go_sem]
  refine hK _ _ fun nx => ?_; clear hK K; try clear kk
  refine awp_seq ?_
  refine awp_first fun K kk hK => ?_
  simp only [go_sem]
  refine hK _ _ fun nx => ?_; clear hK K; try clear kk
  obtain ⟨e0, f0, hh⟩ := bind_ex hh
  obtain ⟨hlen0, f0⟩ := chk_some f0
  refine awp_fragE (CutTo (fun s => ∃ out_42, out_42 = e0 ∧ ∃ (v_40 : Int) (v_41 : Bool) (nx : Nat) (g3 : Nat), s = ⟨[(3, .row 3 g3 out_42.length), (7, .list 5 (l_1.map api_Node.pv)), (8, .int .i64 (l_1.length : Int)), (9, .int .i64 v_40), (10, .bool v_41)], [(3, g3, .row false 5 (out_42.map api_Node.pv))], nx⟩))
    (fun i s => False)
    (fun s => False) ?_ ?_ ?_ ?_
  · refine awp_block ?_
    refine awp_loopJ fun I hI => ?_
    have key : ∀ (suf pre : List api_Node) (v_14 : Int) (out_15 : (List api_Node)), l_1 = pre ++ suf → v_14 = (pre.length : Int) → node_Join_l0 suf v_14 out_15 = some e0 → ∀ (nx : Nat) (g3 : Nat), I ⟨[(3, .row 3 g3 out_15.length), (7, .list 5 (l_1.map api_Node.pv)), (8, .int .i64 (l_1.length : Int)), (9, .int .i64 v_14)], [(3, g3, .row false 5 (out_15.map api_Node.pv))], nx⟩ := by
      intro suf
      induction suf with
      | nil =>
        intro pre v_14 out_15 hsplit hidx hh nx g3
        rw [node_Join_l0] at hh
        refine hI _ ?_
        have h43 := walk_nil hsplit hidx
        refine awp_first fun K kk hK => ?_
        simp only [go_sem]
        refine hK _ _ fun nx => ?_; clear hK K; try clear kk
        refine awp_seq ?_
        refine awp_false (by first | exact congrArg PV.bool h43 | rfl) ?_
        refine awp_exit ?_; refine nmx ?_
        refine fragN ?_
        refine cut_id ?_
        refine ⟨_, (Option.some.inj hh), ?_⟩
        first | exact ⟨_, _, _, _, rfl⟩ | (simp only [diptychlaw5_Cell.pv_eq, api_Attr.pv_eq, api_Node.pv_eq, token_Token.pv_eq, piece_flat.pv_eq, place_Spot.pv_eq, diptychref4_Spot.pv_eq, pvL, List.map_cons, List.map_nil, List.map_append, rune1]; exact ⟨_, _, _, _, rfl⟩) | (simp only [diptychlaw5_Cell.pv_eq, api_Attr.pv_eq, api_Node.pv_eq, token_Token.pv_eq, piece_flat.pv_eq, place_Spot.pv_eq, diptychref4_Spot.pv_eq, pvL, List.map_cons, List.map_nil, List.map_append, rune1, h43]; exact ⟨_, _, _, _, rfl⟩)
      | cons y_28 suf ih =>
        intro pre v_14 out_15 hsplit hidx hh nx g3
        rw [node_Join_l0] at hh
        refine hI _ ?_
        obtain ⟨hl0a, hl0b, hl0d, hl0w, h43⟩ := walk_cons (f := api_Node.pv) hsplit hidx hlen0
        refine awp_first fun K kk hK => ?_
        simp only [go_sem]
        refine hK _ _ fun nx => ?_; clear hK K; try clear kk
        refine awp_seq ?_
        refine awp_true (by first | exact congrArg PV.bool h43 | rfl) ?_
        refine awp_skip ?_; refine nmx ?_
        refine awp_seq ?_
        refine awp_block ?_
        refine awp_first fun K kk hK => ?_
        simp only [go_sem, hl0a, hl0b, hl0d, hl0w]
        refine hK _ _ fun nx => ?_; clear hK K; try clear kk
        refine awp_first fun K kk hK => ?_
        simp only [go_sem, hl0a, hl0b, hl0d, hl0w]
        refine hK _ _ fun nx => ?_; clear hK K; try clear kk
        refine awp_block ?_
        obtain ⟨istext_29, h44, hh⟩ := bind_ex hh
        by_cases h45 : (istext_29) = true
        · rw [if_pos h45] at hh
          refine awp_first fun K kk hK => ?_
          simp only [go_sem, h45, h45, hl0a, hl0b, hl0d, hl0w]
          (repeat refine sd ?_)
          refine step_call2 (node_isText_ok _ _ h44) (by (try simp only [go_sem, h45, h45, hl0a, hl0b, hl0d, hl0w]) <;> exact wkl) (by rfl) (by rfl) ?_
          simp only [go_sem, h45, h45, hl0a, hl0b, hl0d, hl0w]
          (repeat refine sd ?_)
          refine hK _ _ fun nx => ?_; clear hK K; try clear kk
          by_cases h46 : (y_28.Text == ([] : Str)) = true
          · rw [if_pos h46] at hh
            refine awp_true (by first | exact congrArg PV.bool h46 | rfl) ?_
            refine awp_skip ?_; refine nmx ?_
            refine awp_region fun K kk hK => ?_
            simp only [go_sem, hl0a, hl0b, hl0d, hl0w]
            refine hK _ _ fun nx => ?_; clear hK K; try clear kk
            refine nmx ?_
            have ih' := ih (pre ++ [y_28]) (v_14 + 1) _ (by rw [hsplit]; simp) (by simp [hidx]) hh nx
            refine cut_id ?_
            first | exact ih' _ | (simp only [diptychlaw5_Cell.pv_eq, api_Attr.pv_eq, api_Node.pv_eq, token_Token.pv_eq, piece_flat.pv_eq, place_Spot.pv_eq, diptychref4_Spot.pv_eq, pvL, List.map_cons, List.map_nil, List.map_append, rune1] at ih' ⊢; exact ih' _) | (simp only [diptychlaw5_Cell.pv_eq, api_Attr.pv_eq, api_Node.pv_eq, token_Token.pv_eq, piece_flat.pv_eq, place_Spot.pv_eq, diptychref4_Spot.pv_eq, pvL, List.map_cons, List.map_nil, List.map_append, rune1, h43, h45, h46] at ih' ⊢; exact ih' _)
          · rw [if_neg h46] at hh
            replace h46 := Bool.eq_false_iff.mpr h46
            refine awp_false (by first | exact congrArg PV.bool h46 | rfl) ?_
            by_cases h47 : (decide ((w64 ((out_15.length : Int) - (1 : Int))) ≥ (0 : Int))) = true
            · rw [if_pos h47] at hh
              obtain ⟨x_30, h48, hh⟩ := bind_ex hh
              obtain ⟨h48a, h48b, h48c⟩ := rd_some h48
              have h48d := rd_get (f := api_Node.pv) h48c
              have h48f := rd_more (f := api_Node.pv) h48c
              try simp only [Int.toNat_natCast, Int.reduceToNat] at h48d h48f
              obtain ⟨alike_31, h49, hh⟩ := bind_ex hh
              refine awp_first fun K kk hK => ?_
              simp only [go_sem, h47, of_decide_eq_true h47, h48a, h48b, h48d, h48f.1, h48f.2, h47, of_decide_eq_true h47, hl0a, hl0b, hl0d, hl0w]
              (repeat refine sd ?_)
              refine step_call2 (node_alike_ok _ _ _ h49) (by (try simp only [go_sem, h47, of_decide_eq_true h47, h48a, h48b, h48d, h48f.1, h48f.2, h47, of_decide_eq_true h47, hl0a, hl0b, hl0d, hl0w]) <;> exact wkl) (by rfl) (by rfl) ?_
              simp only [go_sem, h47, of_decide_eq_true h47, h48a, h48b, h48d, h48f.1, h48f.2, h47, of_decide_eq_true h47, hl0a, hl0b, hl0d, hl0w]
              (repeat refine sd ?_)
              refine hK _ _ fun nx => ?_; clear hK K; try clear kk
              by_cases h50 : (alike_31) = true
              · rw [if_pos h50] at hh
                refine awp_true (by first | exact congrArg PV.bool h50 | rfl) ?_
                obtain ⟨h51, hh⟩ := chk_some hh
                refine awp_first fun K kk hK => ?_
                simp only [go_sem, h48a, h48b, h48d, h48f.1, h48f.2, h51, hl0a, hl0b, hl0d, hl0w]
                (repeat refine sd ?_)
                refine hK _ _ fun nx => ?_; clear hK K; try clear kk
                obtain ⟨l_32, h52, hh⟩ := bind_ex hh
                obtain ⟨h52a, h52c⟩ := wr_some h52
                have h52d := wr_map (f := api_Node.pv) h52c
                try simp only [Int.toNat_natCast, Int.reduceToNat, List.map_cons, List.map_nil, diptychlaw5_Cell.pv_eq, api_Attr.pv_eq, api_Node.pv_eq, token_Token.pv_eq, piece_flat.pv_eq, place_Spot.pv_eq, diptychref4_Spot.pv_eq, pvL] at h52d
                have h52e := wr_len h52c
                have h48b_h52 := h48b; rw [h52e] at h48b_h52
                have h48f1_h52 := h48f.1; rw [h52e] at h48f1_h52
                have h48a_h52 := h48a; try rw [h52e] at h48a_h52
                have h48d_h52 := h48d; try rw [h52e] at h48d_h52
                try rw [h52e] at h52d
                have h52bw := h52a.2; rw [h52e] at h52bw
                refine awp_region fun K kk hK => ?_
                simp only [go_sem, h48a, h48b, h48d, h48f.1, h48f.2, h52a.1, h52a.2, h52d, h52e, h48b_h52, h48f1_h52, h48a_h52, h48d_h52, h52bw, hl0a, hl0b, hl0d, hl0w]
                (repeat refine sd ?_)
                try simp only [go_sem, h48a, h48b, h48d, h48f.1, h48f.2, h52a.1, h52a.2, h52d, h52e, h48b_h52, h48f1_h52, h48a_h52, h48d_h52, h52bw, hl0a, hl0b, hl0d, hl0w]
                refine hK _ _ fun nx => ?_; clear hK K; try clear kk
                refine nmx ?_
                refine awp_region fun K kk hK => ?_
                simp only [go_sem, hl0a, hl0b, hl0d, hl0w]
                refine hK _ _ fun nx => ?_; clear hK K; try clear kk
                refine nmx ?_
                have ih' := ih (pre ++ [y_28]) (v_14 + 1) _ (by rw [hsplit]; simp) (by simp [hidx]) hh nx
                refine cut_id ?_
                first | exact ih' _ | (simp only [diptychlaw5_Cell.pv_eq, api_Attr.pv_eq, api_Node.pv_eq, token_Token.pv_eq, piece_flat.pv_eq, place_Spot.pv_eq, diptychref4_Spot.pv_eq, pvL, List.map_cons, List.map_nil, List.map_append, rune1, h52e] at ih' ⊢; exact ih' _) | (simp only [diptychlaw5_Cell.pv_eq, api_Attr.pv_eq, api_Node.pv_eq, token_Token.pv_eq, piece_flat.pv_eq, place_Spot.pv_eq, diptychref4_Spot.pv_eq, pvL, List.map_cons, List.map_nil, List.map_append, rune1, h52e, h43, h45, h46, h47, h50] at ih' ⊢; exact ih' _)
              · rw [if_neg h50] at hh
                replace h50 := Bool.eq_false_iff.mpr h50
                refine awp_false (by first | exact congrArg PV.bool h50 | rfl) ?_
                obtain ⟨l_33, h53, hh⟩ := bind_ex hh
                obtain ⟨h53a, h53c⟩ := app_some h53
                have h53d := app_map (f := api_Node.pv) h53c
                have h53e := app_len h53c
                try simp only [List.length_cons, List.length_nil, Nat.zero_add, Nat.reduceAdd] at h53a h53e
                try simp only [h53e] at h53a
                try simp only [List.map_cons, List.map_nil, List.nil_append, List.append_nil, List.cons_append, List.singleton_append, rune1, diptychlaw5_Cell.pv_eq, api_Attr.pv_eq, api_Node.pv_eq, token_Token.pv_eq, piece_flat.pv_eq, place_Spot.pv_eq, diptychref4_Spot.pv_eq, pvL] at h53d
                refine awp_region fun K kk hK => ?_
                simp only [go_sem, h53a, h53d, h53e, hl0a, hl0b, hl0d, hl0w]
                (repeat refine sd ?_)
                refine hK _ _ fun nx => ?_; clear hK K; try clear kk
                refine nmx ?_
                refine awp_region fun K kk hK => ?_
                simp only [go_sem, hl0a, hl0b, hl0d, hl0w]
                refine hK _ _ fun nx => ?_; clear hK K; try clear kk
                refine nmx ?_
                have ih' := ih (pre ++ [y_28]) (v_14 + 1) _ (by rw [hsplit]; simp) (by simp [hidx]) hh nx
                refine cut_id ?_
                first | exact ih' _ | (simp only [diptychlaw5_Cell.pv_eq, api_Attr.pv_eq, api_Node.pv_eq, token_Token.pv_eq, piece_flat.pv_eq, place_Spot.pv_eq, diptychref4_Spot.pv_eq, pvL, List.map_cons, List.map_nil, List.map_append, rune1, h53e] at ih' ⊢; exact ih' _) | (simp only [diptychlaw5_Cell.pv_eq, api_Attr.pv_eq, api_Node.pv_eq, token_Token.pv_eq, piece_flat.pv_eq, place_Spot.pv_eq, diptychref4_Spot.pv_eq, pvL, List.map_cons, List.map_nil, List.map_append, rune1, h53e, h43, h45, h46, h47, h50] at ih' ⊢; exact ih' _)
            · rw [if_neg h47] at hh
              replace h47 := Bool.eq_false_iff.mpr h47
              refine awp_first fun K kk hK => ?_
              simp only [go_sem, h47, of_decide_eq_false h47, h47, of_decide_eq_false h47, hl0a, hl0b, hl0d, hl0w]
              (repeat refine sd ?_)
              refine hK _ _ fun nx => ?_; clear hK K; try clear kk
              refine awp_false rfl ?_
              obtain ⟨l_34, h54, hh⟩ := bind_ex hh
              obtain ⟨h54a, h54c⟩ := app_some h54
              have h54d := app_map (f := api_Node.pv) h54c
              have h54e := app_len h54c
              try simp only [List.length_cons, List.length_nil, Nat.zero_add, Nat.reduceAdd] at h54a h54e
              try simp only [h54e] at h54a
              try simp only [List.map_cons, List.map_nil, List.nil_append, List.append_nil, List.cons_append, List.singleton_append, rune1, diptychlaw5_Cell.pv_eq, api_Attr.pv_eq, api_Node.pv_eq, token_Token.pv_eq, piece_flat.pv_eq, place_Spot.pv_eq, diptychref4_Spot.pv_eq, pvL] at h54d
              refine awp_region fun K kk hK => ?_
              simp only [go_sem, h54a, h54d, h54e, hl0a, hl0b, hl0d, hl0w]
              (repeat refine sd ?_)
              refine hK _ _ fun nx => ?_; clear hK K; try clear kk
              refine nmx ?_
              refine awp_region fun K kk hK => ?_
              simp only [go_sem, hl0a, hl0b, hl0d, hl0w]
              refine hK _ _ fun nx => ?_; clear hK K; try clear kk
              refine nmx ?_
              have ih' := ih (pre ++ [y_28]) (v_14 + 1) _ (by rw [hsplit]; simp) (by simp [hidx]) hh nx
              refine cut_id ?_
              first | exact ih' _ | (simp only [diptychlaw5_Cell.pv_eq, api_Attr.pv_eq, api_Node.pv_eq, token_Token.pv_eq, piece_flat.pv_eq, place_Spot.pv_eq, diptychref4_Spot.pv_eq, pvL, List.map_cons, List.map_nil, List.map_append, rune1, h54e] at ih' ⊢; exact ih' _) | (simp only [diptychlaw5_Cell.pv_eq, api_Attr.pv_eq, api_Node.pv_eq, token_Token.pv_eq, piece_flat.pv_eq, place_Spot.pv_eq, diptychref4_Spot.pv_eq, pvL, List.map_cons, List.map_nil, List.map_append, rune1, h54e, h43, h45, h46, h47] at ih' ⊢; exact ih' _)
        · rw [if_neg h45] at hh
          replace h45 := Bool.eq_false_iff.mpr h45
          refine awp_first fun K kk hK => ?_
          simp only [go_sem, h45, h45, hl0a, hl0b, hl0d, hl0w]
          (repeat refine sd ?_)
          refine step_call2 (node_isText_ok _ _ h44) (by (try simp only [go_sem, h45, h45, hl0a, hl0b, hl0d, hl0w]) <;> exact wkl) (by rfl) (by rfl) ?_
          simp only [go_sem, h45, h45, hl0a, hl0b, hl0d, hl0w]
          (repeat refine sd ?_)
          refine hK _ _ fun nx => ?_; clear hK K; try clear kk
          refine awp_false rfl ?_
          by_cases h55 : (decide ((w64 ((out_15.length : Int) - (1 : Int))) ≥ (0 : Int))) = true
          · rw [if_pos h55] at hh
            obtain ⟨x_35, h56, hh⟩ := bind_ex hh
            obtain ⟨h56a, h56b, h56c⟩ := rd_some h56
            have h56d := rd_get (f := api_Node.pv) h56c
            have h56f := rd_more (f := api_Node.pv) h56c
            try simp only [Int.toNat_natCast, Int.reduceToNat] at h56d h56f
            obtain ⟨alike_36, h57, hh⟩ := bind_ex hh
            refine awp_first fun K kk hK => ?_
            simp only [go_sem, h55, of_decide_eq_true h55, h56a, h56b, h56d, h56f.1, h56f.2, h55, of_decide_eq_true h55, hl0a, hl0b, hl0d, hl0w]
            (repeat refine sd ?_)
            refine step_call2 (node_alike_ok _ _ _ h57) (by (try simp only [go_sem, h55, of_decide_eq_true h55, h56a, h56b, h56d, h56f.1, h56f.2, h55, of_decide_eq_true h55, hl0a, hl0b, hl0d, hl0w]) <;> exact wkl) (by rfl) (by rfl) ?_
            simp only [go_sem, h55, of_decide_eq_true h55, h56a, h56b, h56d, h56f.1, h56f.2, h55, of_decide_eq_true h55, hl0a, hl0b, hl0d, hl0w]
            (repeat refine sd ?_)
            refine hK _ _ fun nx => ?_; clear hK K; try clear kk
            by_cases h58 : (alike_36) = true
            · rw [if_pos h58] at hh
              refine awp_true (by first | exact congrArg PV.bool h58 | rfl) ?_
              obtain ⟨h59, hh⟩ := chk_some hh
              refine awp_first fun K kk hK => ?_
              simp only [go_sem, h56a, h56b, h56d, h56f.1, h56f.2, h59, hl0a, hl0b, hl0d, hl0w]
              (repeat refine sd ?_)
              refine hK _ _ fun nx => ?_; clear hK K; try clear kk
              obtain ⟨l_37, h60, hh⟩ := bind_ex hh
              obtain ⟨h60a, h60c⟩ := wr_some h60
              have h60d := wr_map (f := api_Node.pv) h60c
              try simp only [Int.toNat_natCast, Int.reduceToNat, List.map_cons, List.map_nil, diptychlaw5_Cell.pv_eq, api_Attr.pv_eq, api_Node.pv_eq, token_Token.pv_eq, piece_flat.pv_eq, place_Spot.pv_eq, diptychref4_Spot.pv_eq, pvL] at h60d
              have h60e := wr_len h60c
              have h56b_h60 := h56b; rw [h60e] at h56b_h60
              have h56f1_h60 := h56f.1; rw [h60e] at h56f1_h60
              have h56a_h60 := h56a; try rw [h60e] at h56a_h60
              have h56d_h60 := h56d; try rw [h60e] at h56d_h60
              try rw [h60e] at h60d
              have h60bw := h60a.2; rw [h60e] at h60bw
              refine awp_region fun K kk hK => ?_
              simp only [go_sem, h56a, h56b, h56d, h56f.1, h56f.2, h60a.1, h60a.2, h60d, h60e, h56b_h60, h56f1_h60, h56a_h60, h56d_h60, h60bw, hl0a, hl0b, hl0d, hl0w]
              (repeat refine sd ?_)
              try simp only [go_sem, h56a, h56b, h56d, h56f.1, h56f.2, h60a.1, h60a.2, h60d, h60e, h56b_h60, h56f1_h60, h56a_h60, h56d_h60, h60bw, hl0a, hl0b, hl0d, hl0w]
              refine hK _ _ fun nx => ?_; clear hK K; try clear kk
              refine nmx ?_
              refine awp_region fun K kk hK => ?_
              simp only [go_sem, hl0a, hl0b, hl0d, hl0w]
              refine hK _ _ fun nx => ?_; clear hK K; try clear kk
              refine nmx ?_
              have ih' := ih (pre ++ [y_28]) (v_14 + 1) _ (by rw [hsplit]; simp) (by simp [hidx]) hh nx
              refine cut_id ?_
              first | exact ih' _ | (simp only [diptychlaw5_Cell.pv_eq, api_Attr.pv_eq, api_Node.pv_eq, token_Token.pv_eq, piece_flat.pv_eq, place_Spot.pv_eq, diptychref4_Spot.pv_eq, pvL, List.map_cons, List.map_nil, List.map_append, rune1, h60e] at ih' ⊢; exact ih' _) | (simp only [diptychlaw5_Cell.pv_eq, api_Attr.pv_eq, api_Node.pv_eq, token_Token.pv_eq, piece_flat.pv_eq, place_Spot.pv_eq, diptychref4_Spot.pv_eq, pvL, List.map_cons, List.map_nil, List.map_append, rune1, h60e, h43, h45, h55, h58] at ih' ⊢; exact ih' _)
            · rw [if_neg h58] at hh
              replace h58 := Bool.eq_false_iff.mpr h58
              refine awp_false (by first | exact congrArg PV.bool h58 | rfl) ?_
              obtain ⟨l_38, h61, hh⟩ := bind_ex hh
              obtain ⟨h61a, h61c⟩ := app_some h61
              have h61d := app_map (f := api_Node.pv) h61c
              have h61e := app_len h61c
              try simp only [List.length_cons, List.length_nil, Nat.zero_add, Nat.reduceAdd] at h61a h61e
              try simp only [h61e] at h61a
              try simp only [List.map_cons, List.map_nil, List.nil_append, List.append_nil, List.cons_append, List.singleton_append, rune1, diptychlaw5_Cell.pv_eq, api_Attr.pv_eq, api_Node.pv_eq, token_Token.pv_eq, piece_flat.pv_eq, place_Spot.pv_eq, diptychref4_Spot.pv_eq, pvL] at h61d
              refine awp_region fun K kk hK => ?_
              simp only [go_sem, h61a, h61d, h61e, hl0a, hl0b, hl0d, hl0w]
              (repeat refine sd ?_)
              refine hK _ _ fun nx => ?_; clear hK K; try clear kk
              refine nmx ?_
              refine awp_region fun K kk hK => ?_
              simp only [go_sem, hl0a, hl0b, hl0d, hl0w]
              refine hK _ _ fun nx => ?_; clear hK K; try clear kk
              refine nmx ?_
              have ih' := ih (pre ++ [y_28]) (v_14 + 1) _ (by rw [hsplit]; simp) (by simp [hidx]) hh nx
              refine cut_id ?_
              first | exact ih' _ | (simp only [diptychlaw5_Cell.pv_eq, api_Attr.pv_eq, api_Node.pv_eq, token_Token.pv_eq, piece_flat.pv_eq, place_Spot.pv_eq, diptychref4_Spot.pv_eq, pvL, List.map_cons, List.map_nil, List.map_append, rune1, h61e] at ih' ⊢; exact ih' _) | (simp only [diptychlaw5_Cell.pv_eq, api_Attr.pv_eq, api_Node.pv_eq, token_Token.pv_eq, piece_flat.pv_eq, place_Spot.pv_eq, diptychref4_Spot.pv_eq, pvL, List.map_cons, List.map_nil, List.map_append, rune1, h61e, h43, h45, h55, h58] at ih' ⊢; exact ih' _)
          · rw [if_neg h55] at hh
            replace h55 := Bool.eq_false_iff.mpr h55
            refine awp_first fun K kk hK => ?_
            simp only [go_sem, h55, of_decide_eq_false h55, h55, of_decide_eq_false h55, hl0a, hl0b, hl0d, hl0w]
            (repeat refine sd ?_)
            refine hK _ _ fun nx => ?_; clear hK K; try clear kk
            refine awp_false rfl ?_
            obtain ⟨l_39, h62, hh⟩ := bind_ex hh
            obtain ⟨h62a, h62c⟩ := app_some h62
            have h62d := app_map (f := api_Node.pv) h62c
            have h62e := app_len h62c
            try simp only [List.length_cons, List.length_nil, Nat.zero_add, Nat.reduceAdd] at h62a h62e
            try simp only [h62e] at h62a
            try simp only [List.map_cons, List.map_nil, List.nil_append, List.append_nil, List.cons_append, List.singleton_append, rune1, diptychlaw5_Cell.pv_eq, api_Attr.pv_eq, api_Node.pv_eq, token_Token.pv_eq, piece_flat.pv_eq, place_Spot.pv_eq, diptychref4_Spot.pv_eq, pvL] at h62d
            refine awp_region fun K kk hK => ?_
            simp only [go_sem, h62a, h62d, h62e, hl0a, hl0b, hl0d, hl0w]
            (repeat refine sd ?_)
            refine hK _ _ fun nx => ?_; clear hK K; try clear kk
            refine nmx ?_
            refine awp_region fun K kk hK => ?_
            simp only [go_sem, hl0a, hl0b, hl0d, hl0w]
            refine hK _ _ fun nx => ?_; clear hK K; try clear kk
            refine nmx ?_
            have ih' := ih (pre ++ [y_28]) (v_14 + 1) _ (by rw [hsplit]; simp) (by simp [hidx]) hh nx
            refine cut_id ?_
            first | exact ih' _ | (simp only [diptychlaw5_Cell.pv_eq, api_Attr.pv_eq, api_Node.pv_eq, token_Token.pv_eq, piece_flat.pv_eq, place_Spot.pv_eq, diptychref4_Spot.pv_eq, pvL, List.map_cons, List.map_nil, List.map_append, rune1, h62e] at ih' ⊢; exact ih' _) | (simp only [diptychlaw5_Cell.pv_eq, api_Attr.pv_eq, api_Node.pv_eq, token_Token.pv_eq, piece_flat.pv_eq, place_Spot.pv_eq, diptychref4_Spot.pv_eq, pvL, List.map_cons, List.map_nil, List.map_append, rune1, h62e, h43, h45, h55] at ih' ⊢; exact ih' _)
    exact key l_1 [] _ _ rfl rfl f0 _ _
  · rintro s ⟨t, hless, out_42, rfl, v_40, v_41, nx, g3, rfl⟩
    try dsimp only at hh
    refine nmy ?_
    first | (refine cut_less hless ?_; try refine cut_awp ?_) | refine frag_less hless ?_ | refine body_less hless ?_
    refine awp_first fun K kk hK => ?_
    simp only [go_sem]
    refine hK _ _ fun nx => ?_; clear hK K; try clear kk
    refine awp_ret ?_; refine nmx ?_
    obtain hR := Option.some.inj hh
    subst hR
    exact ret_own (by rfl) (by rfl) (by rfl) (by simp only [List.length_map, List.length_cons, List.length_nil, Nat.zero_add, Nat.reduceAdd]) (by first | rfl | (simp only [diptychlaw5_Cell.pv_eq, api_Attr.pv_eq, api_Node.pv_eq, token_Token.pv_eq, piece_flat.pv_eq, place_Spot.pv_eq, diptychref4_Spot.pv_eq, pvL, List.map_cons, List.map_nil, List.map_append, rune1]; done) | (simp only [diptychlaw5_Cell.pv_eq, api_Attr.pv_eq, api_Node.pv_eq, token_Token.pv_eq, piece_flat.pv_eq, place_Spot.pv_eq, diptychref4_Spot.pv_eq, pvL, List.map_cons, List.map_nil, List.map_append, rune1]; rfl))
  · intro i s h; exact h.elim
  · intro s h; exact h.elim
theorem place_Resolve_ok (n_1 : api_Node) (pos_2 : Int) (R : (place_Spot × Int)) (hh : place_Resolve n_1 pos_2 = some R) : PC Tryd.prog 38 [.agg [.str n_1.Kind, .str n_1.Text, .list 1 (n_1.Marks.map PV.str), .list 2 (n_1.Attrs.map api_Attr.pv), .list 5 (n_1.Kids.map api_Node.pv)], .int .i64 pos_2] (.tup [.agg [.list 1 (R.1.Path.map (PV.int .i64)), .int .i64 R.1.Index, .int .i64 R.1.Offset], .int .i64 R.2]) := by
  rw [place_Resolve] at hh
  refine start_place_Resolve rfl ?_
  refine awp_first fun K kk hK => ?_
  simp only [go_sem]
  refine hK _ _ fun nx => ?_; clear hK K; try clear kk
  refine awp_scope ?_
  refine awp_seq ?_
  by_cases h1 : (n_1.Kind == ([116, 101, 120, 116] : Str)) = true
  · rw [if_pos h1] at hh
    refine awp_first fun K kk hK => ?_
    simp only [go_sem, h1, h1]
    (repeat refine sd ?_)
    refine hK _ _ fun nx => ?_; clear hK K; try clear kk
    refine awp_true rfl ?_
    refine awp_first fun K kk hK => ?_
    simp only [go_sem]
    refine hK _ _ fun nx => ?_; clear hK K; try clear kk
    refine awp_ret ?_; refine nmx ?_
    obtain hR := Option.some.inj hh
    subst hR
    exact ret_p2
  · rw [if_neg h1] at hh
    replace h1 := Bool.eq_false_iff.mpr h1
    by_cases h2 : (decide (pos_2 < (0 : Int))) = true
    · rw [if_pos h2] at hh
      refine awp_first fun K kk hK => ?_
      simp only [go_sem, h1, h1, h2, of_decide_eq_true h2, h2, of_decide_eq_true h2]
      (repeat refine sd ?_)
      refine hK _ _ fun nx => ?_; clear hK K; try clear kk
      refine awp_true rfl ?_
      refine awp_first fun K kk hK => ?_
      simp only [go_sem]
      refine hK _ _ fun nx => ?_; clear hK K; try clear kk
      refine awp_ret ?_; refine nmx ?_
      obtain hR := Option.some.inj hh
      subst hR
      exact ret_p2
    · rw [if_neg h2] at hh
      replace h2 := Bool.eq_false_iff.mpr h2
      obtain ⟨total_3, h3, hh⟩ := bind_ex hh
      refine awp_first fun K kk hK => ?_
      simp only [go_sem, h1, h1, h2, of_decide_eq_false h2, h2, of_decide_eq_false h2]
      (repeat refine sd ?_)
      refine step_call2 (node_Total_ok _ _ h3) (by (try simp only [go_sem, h1, h1, h2, of_decide_eq_false h2, h2, of_decide_eq_false h2]) <;> exact wkl) (by rfl) (by rfl) ?_
      simp only [go_sem, h1, h1, h2, of_decide_eq_false h2, h2, of_decide_eq_false h2]
      (repeat refine sd ?_)
      refine hK _ _ fun nx => ?_; clear hK K; try clear kk
      by_cases h4 : (decide (pos_2 > total_3)) = true
      · rw [if_pos h4] at hh
        refine awp_true (by first | exact congrArg PV.bool h4 | rfl) ?_
        refine awp_first fun K kk hK => ?_
        simp only [go_sem]
        refine hK _ _ fun nx => ?_; clear hK K; try clear kk
        refine awp_ret ?_; refine nmx ?_
        obtain hR := Option.some.inj hh
        subst hR
        exact ret_p2
      · rw [if_neg h4] at hh
        replace h4 := Bool.eq_false_iff.mpr h4
        refine awp_false (by first | exact congrArg PV.bool h4 | rfl) ?_
        refine awp_skip ?_; refine nmx ?_
        refine awp_first fun K kk hK => ?_
        simp only [go_sem]
        refine hK _ _ fun nx => ?_; clear hK K; try clear kk
        refine awp_seq ?_
        refine awp_label ?_; refine nmx ?_
        obtain ⟨e0, f0, hh⟩ := bind_ex hh
        refine awp_fragE (CutTo (fun s => False))
          (fun i s => False)
          (fun s => ∃ res_43, res_43 = e0 ∧ bodyR Tryd.prog [.cell 4 70, .tmp 5] (.tup [.agg [.list 1 (res_43.1.Path.map (PV.int .i64)), .int .i64 res_43.1.Index, .int .i64 res_43.1.Offset], .int .i64 res_43.2]) [] .ret s) ?_ ?_ ?_ ?_
        · refine awp_block ?_
          refine awp_loopJ fun I hI => ?_
          obtain ⟨k, f0⟩ := lim_some f0
          have key : ∀ (k : Nat) (pos_23 : Int) (n_22 : api_Node) (v_24 : (List Int)), place_Resolve_l0 k pos_23 n_22 v_24 = some e0 → ∀ (nx : Nat) (g2 : Nat) (g4 : Nat) (g6 : Nat) (g342 : Nat), I ⟨[(1, .int .i64 pos_23), (2, .box 2 g2 0), (4, .box 4 g4 0), (6, .box 6 g6 0)], [(2, g2, .var 28 [.str n_22.Kind, .str n_22.Text, .list 1 (n_22.Marks.map PV.str), .list 2 (n_22.Attrs.map api_Attr.pv), .list 5 (n_22.Kids.map api_Node.pv)]), (4, g4, .var 70 [.list 1 ([].map (PV.int .i64)), .int .i64 (0 : Int), .int .i64 (0 : Int)]), (6, g6, .var 70 [.row 342 g342 v_24.length, .int .i64 (0 : Int), .int .i64 (0 : Int)]), (342, g342, .row false 1 (v_24.map (PV.int .i64)))], nx⟩ := by
            intro k
            induction k with
            | zero => intro pos_23 n_22 v_24 hh; rw [place_Resolve_l0] at hh; cases hh
            | succ k ih =>
              intro pos_23 n_22 v_24 hh nx g2 g4 g6 g342
              rw [place_Resolve_l0] at hh
              refine hI _ ?_
              refine awp_block ?_
              refine awp_seq ?_
              refine awp_first fun K kk hK => ?_
              simp only [go_sem]
              refine hK _ _ fun nx => ?_; clear hK K; try clear kk
              obtain ⟨e2, f2, hh⟩ := bind_ex hh
              obtain ⟨hlen2, f2⟩ := chk_some f2
              refine awp_fragE (CutTo (fun s => .inr (.inr ()) = e2 ∧ ∃ (pos_40 : Int) (v_41 : Int) (v_42 : Bool) (nx : Nat) (g2 : Nat) (g4 : Nat) (g6 : Nat) (g342 : Nat), s = ⟨[(1, .int .i64 pos_40), (2, .box 2 g2 0), (4, .box 4 g4 0), (6, .box 6 g6 0), (26, .list 5 (n_22.Kids.map api_Node.pv)), (27, .int .i64 (n_22.Kids.length : Int)), (28, .int .i64 v_41), (29, .bool v_42)], [(2, g2, .var 28 [.str n_22.Kind, .str n_22.Text, .list 1 (n_22.Marks.map PV.str), .list 2 (n_22.Attrs.map api_Attr.pv), .list 5 (n_22.Kids.map api_Node.pv)]), (4, g4, .var 70 [.list 1 ([].map (PV.int .i64)), .int .i64 (0 : Int), .int .i64 (0 : Int)]), (6, g6, .var 70 [.row 342 g342 v_24.length, .int .i64 (0 : Int), .int .i64 (0 : Int)]), (342, g342, .row false 1 (v_24.map (PV.int .i64)))], nx⟩))
                (fun i s => (i = 1 ∧ ∃ pos_37, ∃ n_38, ∃ v_39, .inr (.inl (pos_37, n_38, v_39)) = e2 ∧ ∃ (nx : Nat) (g2 : Nat) (g4 : Nat) (g6 : Nat) (g342 : Nat), s = ⟨[(1, .int .i64 pos_37), (2, .box 2 g2 0), (4, .box 4 g4 0), (6, .box 6 g6 0)], [(2, g2, .var 28 [.str n_38.Kind, .str n_38.Text, .list 1 (n_38.Marks.map PV.str), .list 2 (n_38.Attrs.map api_Attr.pv), .list 5 (n_38.Kids.map api_Node.pv)]), (4, g4, .var 70 [.list 1 ([].map (PV.int .i64)), .int .i64 (0 : Int), .int .i64 (0 : Int)]), (6, g6, .var 70 [.row 342 g342 v_39.length, .int .i64 (0 : Int), .int .i64 (0 : Int)]), (342, g342, .row false 1 (v_39.map (PV.int .i64)))], nx⟩))
                (fun s => ∃ res_36, .inl res_36 = e2 ∧ bodyR Tryd.prog [.cell 4 70, .tmp 5] (.tup [.agg [.list 1 (res_36.1.Path.map (PV.int .i64)), .int .i64 res_36.1.Index, .int .i64 res_36.1.Offset], .int .i64 res_36.2]) [] .ret s) ?_ ?_ ?_ ?_
              · refine awp_block ?_
                refine awp_loopJ fun I hI => ?_
                have key : ∀ (suf pre : List api_Node) (v_29 : Int) (pos_28 : Int), n_22.Kids = pre ++ suf → v_29 = (pre.length : Int) → place_Resolve_l2 v_24 suf v_29 pos_28 = some e2 → ∀ (nx : Nat) (g2 : Nat) (g4 : Nat) (g6 : Nat) (g342 : Nat), I ⟨[(1, .int .i64 pos_28), (2, .box 2 g2 0), (4, .box 4 g4 0), (6, .box 6 g6 0), (26, .list 5 (n_22.Kids.map api_Node.pv)), (27, .int .i64 (n_22.Kids.length : Int)), (28, .int .i64 v_29)], [(2, g2, .var 28 [.str n_22.Kind, .str n_22.Text, .list 1 (n_22.Marks.map PV.str), .list 2 (n_22.Attrs.map api_Attr.pv), .list 5 (n_22.Kids.map api_Node.pv)]), (4, g4, .var 70 [.list 1 ([].map (PV.int .i64)), .int .i64 (0 : Int), .int .i64 (0 : Int)]), (6, g6, .var 70 [.row 342 g342 v_24.length, .int .i64 (0 : Int), .int .i64 (0 : Int)]), (342, g342, .row false 1 (v_24.map (PV.int .i64)))], nx⟩ := by
                  intro suf
                  induction suf with
                  | nil =>
                    intro pre v_29 pos_28 hsplit hidx hh nx g2 g4 g6 g342
                    rw [place_Resolve_l2] at hh
                    refine hI _ ?_
                    have h39 := walk_nil hsplit hidx
                    refine awp_first fun K kk hK => ?_
                    simp only [go_sem]
                    refine hK _ _ fun nx => ?_; clear hK K; try clear kk
                    refine awp_seq ?_
                    refine awp_false (by first | exact congrArg PV.bool h39 | rfl) ?_
                    refine awp_exit ?_; refine nmx ?_
                    refine fragN ?_
                    refine cut_id ?_
                    refine ⟨(Option.some.inj hh), ?_⟩
                    first | exact ⟨_, _, _, _, _, _, _, _, rfl⟩ | (simp only [diptychlaw5_Cell.pv_eq, api_Attr.pv_eq, api_Node.pv_eq, token_Token.pv_eq, piece_flat.pv_eq, place_Spot.pv_eq, diptychref4_Spot.pv_eq, pvL, List.map_cons, List.map_nil, List.map_append, rune1]; exact ⟨_, _, _, _, _, _, _, _, rfl⟩) | (simp only [diptychlaw5_Cell.pv_eq, api_Attr.pv_eq, api_Node.pv_eq, token_Token.pv_eq, piece_flat.pv_eq, place_Spot.pv_eq, diptychref4_Spot.pv_eq, pvL, List.map_cons, List.map_nil, List.map_append, rune1, h1, h2, h39, h4]; exact ⟨_, _, _, _, _, _, _, _, rfl⟩)
                  | cons y_33 suf ih =>
                    intro pre v_29 pos_28 hsplit hidx hh nx g2 g4 g6 g342
                    rw [place_Resolve_l2] at hh
                    refine hI _ ?_
                    obtain ⟨hl2a, hl2b, hl2d, hl2w, h39⟩ := walk_cons (f := api_Node.pv) hsplit hidx hlen2
                    refine awp_first fun K kk hK => ?_
                    simp only [go_sem]
                    refine hK _ _ fun nx => ?_; clear hK K; try clear kk
                    refine awp_seq ?_
                    refine awp_true (by first | exact congrArg PV.bool h39 | rfl) ?_
                    refine awp_skip ?_; refine nmx ?_
                    refine awp_seq ?_
                    refine awp_block ?_
                    refine awp_first fun K kk hK => ?_
                    simp only [go_sem, hl2a, hl2b, hl2d, hl2w]
                    refine hK _ _ fun nx => ?_; clear hK K; try clear kk
                    obtain ⟨size_34, h40, hh⟩ := bind_ex hh
                    refine awp_first fun K kk hK => ?_
                    simp only [go_sem, hl2a, hl2b, hl2d, hl2w]
                    refine step_call2 (node_Size_ok _ _ h40) (by (try simp only [go_sem, hl2a, hl2b, hl2d, hl2w]) <;> exact wkl) (by rfl) (by rfl) ?_
                    simp only [go_sem, hl2a, hl2b, hl2d, hl2w]
                    refine hK _ _ fun nx => ?_; clear hK K; try clear kk
                    refine awp_block ?_
                    refine awp_first fun K kk hK => ?_
                    simp only [go_sem, hl2a, hl2b, hl2d, hl2w]
                    refine hK _ _ fun nx => ?_; clear hK K; try clear kk
                    by_cases h41 : (decide (pos_28 ≥ size_34)) = true
                    · rw [if_pos h41] at hh
                      refine awp_true (by first | exact congrArg PV.bool h41 | rfl) ?_
                      refine awp_region fun K kk hK => ?_
                      simp only [go_sem, hl2a, hl2b, hl2d, hl2w]
                      refine hK _ _ fun nx => ?_; clear hK K; try clear kk
                      refine nmx ?_
                      refine awp_region fun K kk hK => ?_
                      simp only [go_sem, hl2a, hl2b, hl2d, hl2w]
                      refine hK _ _ fun nx => ?_; clear hK K; try clear kk
                      refine nmx ?_
                      have ih' := ih (pre ++ [y_33]) (v_29 + 1) _ (by rw [hsplit]; simp) (by simp [hidx]) hh nx
                      refine cut_id ?_
                      first | exact ih' _ _ _ _ | (simp only [diptychlaw5_Cell.pv_eq, api_Attr.pv_eq, api_Node.pv_eq, token_Token.pv_eq, piece_flat.pv_eq, place_Spot.pv_eq, diptychref4_Spot.pv_eq, pvL, List.map_cons, List.map_nil, List.map_append, rune1] at ih' ⊢; exact ih' _ _ _ _) | (simp only [diptychlaw5_Cell.pv_eq, api_Attr.pv_eq, api_Node.pv_eq, token_Token.pv_eq, piece_flat.pv_eq, place_Spot.pv_eq, diptychref4_Spot.pv_eq, pvL, List.map_cons, List.map_nil, List.map_append, rune1, h1, h2, h39, h4, h41] at ih' ⊢; exact ih' _ _ _ _)
                    · rw [if_neg h41] at hh
                      replace h41 := Bool.eq_false_iff.mpr h41
                      refine awp_false (by first | exact congrArg PV.bool h41 | rfl) ?_
                      refine awp_first fun K kk hK => ?_
                      simp only [go_sem, hl2a, hl2b, hl2d, hl2w]
                      refine hK _ _ fun nx => ?_; clear hK K; try clear kk
                      by_cases h42 : (y_33.Kind == ([116, 101, 120, 116] : Str)) = true
                      · rw [if_pos h42] at hh
                        refine awp_true (by first | exact congrArg PV.bool h42 | rfl) ?_
                        refine awp_first fun K kk hK => ?_
                        simp only [go_sem, hl2a, hl2b, hl2d, hl2w]
                        refine hK _ _ fun nx => ?_; clear hK K; try clear kk
                        refine awp_first fun K kk hK => ?_
                        simp only [go_sem, hl2a, hl2b, hl2d, hl2w]
                        refine hK _ _ fun nx => ?_; clear hK K; try clear kk
                        refine awp_ret ?_; refine nmx ?_
                        refine fragR ⟨_, (Option.some.inj hh), ?_⟩
                        exact ret_p2
                      · rw [if_neg h42] at hh
                        replace h42 := Bool.eq_false_iff.mpr h42
                        refine awp_false (by first | exact congrArg PV.bool h42 | rfl) ?_
                        refine awp_first fun K kk hK => ?_
                        simp only [go_sem, hl2a, hl2b, hl2d, hl2w]
                        refine hK _ _ fun nx => ?_; clear hK K; try clear kk
                        by_cases h43 : (pos_28 == (0 : Int)) = true
                        · rw [if_pos h43] at hh
                          refine awp_true (by first | exact congrArg PV.bool h43 | rfl) ?_
                          refine awp_first fun K kk hK => ?_
                          simp only [go_sem, hl2a, hl2b, hl2d, hl2w]
                          refine hK _ _ fun nx => ?_; clear hK K; try clear kk
                          refine awp_first fun K kk hK => ?_
                          simp only [go_sem, hl2a, hl2b, hl2d, hl2w]
                          refine hK _ _ fun nx => ?_; clear hK K; try clear kk
                          refine awp_ret ?_; refine nmx ?_
                          refine fragR ⟨_, (Option.some.inj hh), ?_⟩
                          exact ret_p2
                        · rw [if_neg h43] at hh
                          replace h43 := Bool.eq_false_iff.mpr h43
                          refine awp_false (by first | exact congrArg PV.bool h43 | rfl) ?_
                          obtain ⟨l_35, h44, hh⟩ := bind_ex hh
                          obtain ⟨h44a, h44c⟩ := app_some h44
                          have h44d := app_map (f := (PV.int .i64)) h44c
                          have h44e := app_len h44c
                          try simp only [List.length_cons, List.length_nil, Nat.zero_add, Nat.reduceAdd] at h44a h44e
                          try simp only [h44e] at h44a
                          try simp only [List.map_cons, List.map_nil, List.nil_append, List.append_nil, List.cons_append, List.singleton_append, rune1, diptychlaw5_Cell.pv_eq, api_Attr.pv_eq, api_Node.pv_eq, token_Token.pv_eq, piece_flat.pv_eq, place_Spot.pv_eq, diptychref4_Spot.pv_eq, pvL] at h44d
                          refine awp_first fun K kk hK => ?_
                          simp only [go_sem, h44a, h44d, h44e, hl2a, hl2b, hl2d, hl2w]
                          (repeat refine sd ?_)
                          refine hK _ _ fun nx => ?_; clear hK K; try clear kk
                          refine awp_first fun K kk hK => ?_
                          simp only [go_sem, hl2a, hl2b, hl2d, hl2w]
                          refine hK _ _ fun nx => ?_; clear hK K; try clear kk
                          refine awp_exit ?_; refine nmx ?_
                          refine fragE ⟨rfl, _, _, _, (Option.some.inj hh), ?_⟩
                          first | exact ⟨_, _, _, _, _, rfl⟩ | (simp only [diptychlaw5_Cell.pv_eq, api_Attr.pv_eq, api_Node.pv_eq, token_Token.pv_eq, piece_flat.pv_eq, place_Spot.pv_eq, diptychref4_Spot.pv_eq, pvL, List.map_cons, List.map_nil, List.map_append, rune1, h44e]; exact ⟨_, _, _, _, _, rfl⟩) | (simp only [diptychlaw5_Cell.pv_eq, api_Attr.pv_eq, api_Node.pv_eq, token_Token.pv_eq, piece_flat.pv_eq, place_Spot.pv_eq, diptychref4_Spot.pv_eq, pvL, List.map_cons, List.map_nil, List.map_append, rune1, h44e, h1, h2, h39, h4, h41, h42, h43]; exact ⟨_, _, _, _, _, rfl⟩)
                exact key n_22.Kids [] _ _ rfl rfl f2 _ _ _ _ _
              · rintro s ⟨t, hless, rfl, pos_40, v_41, v_42, nx, g2, g4, g6, g342, rfl⟩
                try dsimp only at hh
                refine nmy ?_
                first | (refine cut_less hless ?_; try refine cut_awp ?_) | refine frag_less hless ?_ | refine body_less hless ?_
                refine awp_first fun K kk hK => ?_
                simp only [go_sem]
                refine hK _ _ fun nx => ?_; clear hK K; try clear kk
                refine awp_first fun K kk hK => ?_
                simp only [go_sem]
                refine hK _ _ fun nx => ?_; clear hK K; try clear kk
                refine awp_ret ?_; refine nmx ?_
                refine fragR ⟨_, (Option.some.inj hh), ?_⟩
                exact ret_p2
              · intro i s h
                obtain ⟨rfl, pos_37, n_38, v_39, rfl, nx, g2, g4, g6, g342, rfl⟩ := h
                try dsimp only at hh
                refine nmx ?_
                have ih' := ih _ _ _ hh nx
                refine cut_id ?_
                first | exact ih' _ _ _ _ | (simp only [diptychlaw5_Cell.pv_eq, api_Attr.pv_eq, api_Node.pv_eq, token_Token.pv_eq, piece_flat.pv_eq, place_Spot.pv_eq, diptychref4_Spot.pv_eq, pvL, List.map_cons, List.map_nil, List.map_append, rune1] at ih' ⊢; exact ih' _ _ _ _) | (simp only [diptychlaw5_Cell.pv_eq, api_Attr.pv_eq, api_Node.pv_eq, token_Token.pv_eq, piece_flat.pv_eq, place_Spot.pv_eq, diptychref4_Spot.pv_eq, pvL, List.map_cons, List.map_nil, List.map_append, rune1, h1, h2, h4] at ih' ⊢; exact ih' _ _ _ _)
              · rintro s ⟨res_36, rfl, hb⟩
                try dsimp only at hh
                refine nmx ?_
                exact fragR ⟨_, (Option.some.inj hh), hb⟩
          exact key _ _ _ _ f0 _ _ _ _ _
        · rintro s ⟨_, _, h⟩; exact h.elim
        · intro i s h; exact h.elim
        · rintro s ⟨res_43, rfl, hb⟩
          try dsimp only at hh
          obtain hR := Option.some.inj hh
          subst hR
          refine nmx ?_
          exact hb
theorem node_Depth_grp : ∀ kr : Nat, (∀ (n_1 : api_Node) (R : Int), node_Depth_k kr n_1 = some R → PC Tryd.prog 50 [.agg [.str n_1.Kind, .str n_1.Text, .list 1 (n_1.Marks.map PV.str), .list 2 (n_1.Attrs.map api_Attr.pv), .list 5 (n_1.Kids.map api_Node.pv)]] (.int .i64 R)) := by
  intro kr
  induction kr with
  | zero => exact (by intro n_1 R hh; rw [node_Depth_k] at hh; cases hh)
  | succ kr ih =>
    have ih_node_Depth := ih
    clear ih
    intro n_1 R hh
    rw [node_Depth_k] at hh
    refine start_node_Depth rfl ?_
    refine awp_first fun K kk hK => ?_
    simp only [go_sem]
    refine hK _ _ fun nx => ?_; clear hK K; try clear kk
    refine awp_seq ?_
    obtain ⟨istext_2, h1, hh⟩ := bind_ex hh
    refine awp_first fun K kk hK => ?_
    simp only [go_sem]
    refine step_call2 (node_isText_ok _ _ h1) (by (try simp only [go_sem]) <;> exact wkl) (by rfl) (by rfl) ?_
    simp only [go_sem]
    refine hK _ _ fun nx => ?_; clear hK K; try clear kk
    by_cases h2 : (istext_2) = true
    · rw [if_pos h2] at hh
      refine awp_true (by first | exact congrArg PV.bool h2 | rfl) ?_
      refine awp_first fun K kk hK => ?_
      simp only [go_sem]
      refine hK _ _ fun nx => ?_; clear hK K; try clear kk
      refine awp_ret ?_; refine nmx ?_
      obtain hR := Option.some.inj hh
      subst hR
      exact ret_p2
    · rw [if_neg h2] at hh
      replace h2 := Bool.eq_false_iff.mpr h2
      refine awp_false (by first | exact congrArg PV.bool h2 | rfl) ?_
      refine awp_skip ?_; refine nmx ?_
      refine awp_first fun K kk hK => ?_
      simp only [go_sem]
      refine hK _ _ fun nx => ?_; clear hK K; try clear kk
      refine awp_seq ?_
      refine awp_first fun K kk hK => ?_
      simp only [go_sem]
      refine hK _ _ fun nx => ?_; clear hK K; try clear kk
      obtain ⟨e0, f0, hh⟩ := bind_ex hh
      obtain ⟨hlen0, f0⟩ := chk_some f0
      refine awp_fragE (CutTo (fun s => ∃ deepest_11, deepest_11 = e0 ∧ ∃ (v_12 : Int) (v_13 : Bool) (nx : Nat), s = ⟨[(3, .int .i64 deepest_11), (9, .list 5 (n_1.Kids.map api_Node.pv)), (10, .int .i64 (n_1.Kids.length : Int)), (11, .int .i64 v_12), (12, .bool v_13)], [], nx⟩))
        (fun i s => False)
        (fun s => False) ?_ ?_ ?_ ?_
      · refine awp_block ?_
        refine awp_loopJ fun I hI => ?_
        have key : ∀ (suf pre : List api_Node) (v_6 : Int) (deepest_5 : Int), n_1.Kids = pre ++ suf → v_6 = (pre.length : Int) → node_Depth_l0 (node_Depth_k kr) suf v_6 deepest_5 = some e0 → ∀ (nx : Nat), I ⟨[(3, .int .i64 deepest_5), (9, .list 5 (n_1.Kids.map api_Node.pv)), (10, .int .i64 (n_1.Kids.length : Int)), (11, .int .i64 v_6)], [], nx⟩ := by
          intro suf
          induction suf with
          | nil =>
            intro pre v_6 deepest_5 hsplit hidx hh nx
            rw [node_Depth_l0] at hh
            refine hI _ ?_
            have h9 := walk_nil hsplit hidx
            refine awp_first fun K kk hK => ?_
            simp only [go_sem]
            refine hK _ _ fun nx => ?_; clear hK K; try clear kk
            refine awp_seq ?_
            refine awp_false (by first | exact congrArg PV.bool h9 | rfl) ?_
            refine awp_exit ?_; refine nmx ?_
            refine fragN ?_
            refine cut_id ?_
            refine ⟨_, (Option.some.inj hh), ?_⟩
            first | exact ⟨_, _, _, rfl⟩ | (simp only [diptychlaw5_Cell.pv_eq, api_Attr.pv_eq, api_Node.pv_eq, token_Token.pv_eq, piece_flat.pv_eq, place_Spot.pv_eq, diptychref4_Spot.pv_eq, pvL, List.map_cons, List.map_nil, List.map_append, rune1]; exact ⟨_, _, _, rfl⟩) | (simp only [diptychlaw5_Cell.pv_eq, api_Attr.pv_eq, api_Node.pv_eq, token_Token.pv_eq, piece_flat.pv_eq, place_Spot.pv_eq, diptychref4_Spot.pv_eq, pvL, List.map_cons, List.map_nil, List.map_append, rune1, h2, h9]; exact ⟨_, _, _, rfl⟩)
          | cons y_9 suf ih =>
            intro pre v_6 deepest_5 hsplit hidx hh nx
            rw [node_Depth_l0] at hh
            refine hI _ ?_
            obtain ⟨hl0a, hl0b, hl0d, hl0w, h9⟩ := walk_cons (f := api_Node.pv) hsplit hidx hlen0
            refine awp_first fun K kk hK => ?_
            simp only [go_sem]
            refine hK _ _ fun nx => ?_; clear hK K; try clear kk
            refine awp_seq ?_
            refine awp_true (by first | exact congrArg PV.bool h9 | rfl) ?_
            refine awp_skip ?_; refine nmx ?_
            refine awp_seq ?_
            refine awp_block ?_
            refine awp_first fun K kk hK => ?_
            simp only [go_sem, hl0a, hl0b, hl0d, hl0w]
            refine hK _ _ fun nx => ?_; clear hK K; try clear kk
            obtain ⟨depth_10, h10, hh⟩ := bind_ex hh
            refine awp_region fun K kk hK => ?_
            simp only [go_sem, hl0a, hl0b, hl0d, hl0w]
            refine step_call2 (ih_node_Depth _ _ h10) (by (try simp only [go_sem, hl0a, hl0b, hl0d, hl0w]) <;> exact wkl) (by rfl) (by rfl) ?_
            simp only [go_sem, hl0a, hl0b, hl0d, hl0w]
            refine hK _ _ fun nx => ?_; clear hK K; try clear kk
            refine nmx ?_
            refine awp_region fun K kk hK => ?_
            simp only [go_sem, hl0a, hl0b, hl0d, hl0w]
            refine hK _ _ fun nx => ?_; clear hK K; try clear kk
            refine nmx ?_
            have ih' := ih (pre ++ [y_9]) (v_6 + 1) _ (by rw [hsplit]; simp) (by simp [hidx]) hh nx
            refine cut_id ?_
            first | exact ih' | (simp only [diptychlaw5_Cell.pv_eq, api_Attr.pv_eq, api_Node.pv_eq, token_Token.pv_eq, piece_flat.pv_eq, place_Spot.pv_eq, diptychref4_Spot.pv_eq, pvL, List.map_cons, List.map_nil, List.map_append, rune1] at ih' ⊢; exact ih') | (simp only [diptychlaw5_Cell.pv_eq, api_Attr.pv_eq, api_Node.pv_eq, token_Token.pv_eq, piece_flat.pv_eq, place_Spot.pv_eq, diptychref4_Spot.pv_eq, pvL, List.map_cons, List.map_nil, List.map_append, rune1, h2, h9] at ih' ⊢; exact ih')
        exact key n_1.Kids [] _ _ rfl rfl f0 _
      · rintro s ⟨t, hless, deepest_11, rfl, v_12, v_13, nx, rfl⟩
        try dsimp only at hh
        refine nmy ?_
        first | (refine cut_less hless ?_; try refine cut_awp ?_) | refine frag_less hless ?_ | refine body_less hless ?_
        refine awp_first fun K kk hK => ?_
        simp only [go_sem]
        refine hK _ _ fun nx => ?_; clear hK K; try clear kk
        refine awp_ret ?_; refine nmx ?_
        obtain hR := Option.some.inj hh
        subst hR
        exact ret_p2
      · intro i s h; exact h.elim
      · intro s h; exact h.elim
theorem node_Depth_ok (n_1 : api_Node) (R : Int) (hh : node_Depth n_1 = some R) : PC Tryd.prog 50 [.agg [.str n_1.Kind, .str n_1.Text, .list 1 (n_1.Marks.map PV.str), .list 2 (n_1.Attrs.map api_Attr.pv), .list 5 (n_1.Kids.map api_Node.pv)]] (.int .i64 R) := by
  rw [node_Depth] at hh
  obtain ⟨kr, hh⟩ := lim_some hh
  exact (node_Depth_grp kr) _ _ hh
theorem strings_Trim_ok (s : Str) (cutset : Str) (R : Str) (hh : strings_Trim s cutset = some R) : PC Tryd.prog 116 [.str s, .str cutset] (.str R) := by
  rw [strings_Trim] at hh
  exact lib_trim (tr := Lib.trimS) ⟨_, Tryd.func116, by kernel_rfl, by kernel_rfl⟩ (fun s c w h1 h2 h3 => Any.strings_Trim_laid Tryd.lays160 (by kernel_rfl) s c w h1 h2 h3) s cutset R hh
theorem node_Name_ok (s_1 : Str) (R : Bool) (hh : node_Name s_1 = some R) : PC Tryd.prog 102 [.str s_1] (.bool R) := by
  rw [node_Name] at hh
  refine start_node_Name rfl ?_
  refine awp_first fun K kk hK => ?_
  simp only [go_sem]
  refine hK _ _ fun nx => ?_; clear hK K; try clear kk
  obtain ⟨trim_2, h1, hh⟩ := bind_ex hh
  refine awp_first fun K kk hK => ?_
  simp only [go_sem]
  refine step_call2 (strings_Trim_ok _ _ _ h1) (by (try simp only [go_sem]) <;> exact wkl) (by rfl) (by rfl) ?_
  simp only [go_sem]
  refine hK _ _ fun nx => ?_; clear hK K; try clear kk
  by_cases h2 : (trim_2 == ([] : Str)) = true
  · rw [if_pos h2] at hh
    by_cases h3 : (!(s_1 == ([] : Str))) = true
    · rw [if_pos h3] at hh
      by_cases h4 : (decide ((s_1.length : Int) ≤ (8 : Int))) = true
      · rw [if_pos h4] at hh
        refine awp_first fun K kk hK => ?_
        simp only [go_sem, h2, h2, h3, h3, h4, of_decide_eq_true h4, h4, of_decide_eq_true h4]
        (repeat refine sd ?_)
        refine hK _ _ fun nx => ?_; clear hK K; try clear kk
        refine awp_ret ?_; refine nmx ?_
        obtain hR := Option.some.inj hh
        subst hR
        exact ret_p2
      · rw [if_neg h4] at hh
        replace h4 := Bool.eq_false_iff.mpr h4
        refine awp_first fun K kk hK => ?_
        simp only [go_sem, h2, h2, h3, h3, h4, of_decide_eq_false h4, h4, of_decide_eq_false h4]
        (repeat refine sd ?_)
        refine hK _ _ fun nx => ?_; clear hK K; try clear kk
        refine awp_ret ?_; refine nmx ?_
        obtain hR := Option.some.inj hh
        subst hR
        exact ret_p2
    · rw [if_neg h3] at hh
      replace h3 := Bool.eq_false_iff.mpr h3
      refine awp_first fun K kk hK => ?_
      simp only [go_sem, h2, h2, h3, h3]
      (repeat refine sd ?_)
      refine hK _ _ fun nx => ?_; clear hK K; try clear kk
      refine awp_ret ?_; refine nmx ?_
      obtain hR := Option.some.inj hh
      subst hR
      exact ret_p2
  · rw [if_neg h2] at hh
    replace h2 := Bool.eq_false_iff.mpr h2
    refine awp_first fun K kk hK => ?_
    simp only [go_sem, h2, h2]
    (repeat refine sd ?_)
    refine hK _ _ fun nx => ?_; clear hK K; try clear kk
    refine awp_ret ?_; refine nmx ?_
    obtain hR := Option.some.inj hh
    subst hR
    exact ret_p2
theorem unicode_utf8_ValidString_ok (s : Str) (R : Bool) (hh : unicode_utf8_ValidString s = some R) : PC Tryd.prog 112 [.str s] (.bool R) := by
  rw [unicode_utf8_ValidString] at hh
  exact lib_validString ⟨_, Tryd.func112, by kernel_rfl, by kernel_rfl⟩ (fun s w h1 h2 => Any.utf8_ValidString Tryd.lays196 s w h1 h2.1) s R hh
theorem node_Value_ok (s_1 : Str) (R : Bool) (hh : node_Value s_1 = some R) : PC Tryd.prog 103 [.str s_1] (.bool R) := by
  rw [node_Value] at hh
  refine start_node_Value rfl ?_
  refine awp_first fun K kk hK => ?_
  simp only [go_sem]
  refine hK _ _ fun nx => ?_; clear hK K; try clear kk
  by_cases h1 : (decide ((s_1.length : Int) ≤ (40 : Int))) = true
  · rw [if_pos h1] at hh
    obtain ⟨valids_2, h2, hh⟩ := bind_ex hh
    refine awp_first fun K kk hK => ?_
    simp only [go_sem, h1, of_decide_eq_true h1, h1, of_decide_eq_true h1]
    (repeat refine sd ?_)
    refine step_call2 (unicode_utf8_ValidString_ok _ _ h2) (by (try simp only [go_sem, h1, of_decide_eq_true h1, h1, of_decide_eq_true h1]) <;> exact wkl) (by rfl) (by rfl) ?_
    simp only [go_sem, h1, of_decide_eq_true h1, h1, of_decide_eq_true h1]
    (repeat refine sd ?_)
    refine hK _ _ fun nx => ?_; clear hK K; try clear kk
    refine awp_ret ?_; refine nmx ?_
    obtain hR := Option.some.inj hh
    subst hR
    exact ret_p2
  · rw [if_neg h1] at hh
    replace h1 := Bool.eq_false_iff.mpr h1
    refine awp_first fun K kk hK => ?_
    simp only [go_sem, h1, of_decide_eq_false h1, h1, of_decide_eq_false h1]
    (repeat refine sd ?_)
    refine hK _ _ fun nx => ?_; clear hK K; try clear kk
    refine awp_ret ?_; refine nmx ?_
    obtain hR := Option.some.inj hh
    subst hR
    exact ret_p2

end Go.Proofs.YtblielhogcnnkaaDoor
