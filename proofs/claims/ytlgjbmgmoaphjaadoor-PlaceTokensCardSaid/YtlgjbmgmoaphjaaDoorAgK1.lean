/- What the functions answer, the program answers (1). -/
import Derived.Test.YtlgjbmgmoaphjaaDoorAgC
import Derived.Test.YtlgjbmgmoaphjaaDoorAgF
import Derived.Test.YtlgjbmgmoaphjaaDoorAgK0
namespace Go.Proofs.YtlgjbmgmoaphjaaDoor
set_option linter.unusedSimpArgs false
set_option linter.unusedVariables false
open Go
set_option maxRecDepth 100000

theorem token_Of_grp : ∀ kr : Nat, (∀ (l_1 : (List api_Node)) (R : (List token_Token)), token_Of_k kr l_1 = some R → PC Tryd.prog 18 [.list 5 (l_1.map api_Node.pv)] (.own 3 (R.map token_Token.pv))) := by
  intro kr
  induction kr with
  | zero => exact (by intro l_1 R hh; rw [token_Of_k] at hh; cases hh)
  | succ kr ih =>
    have ih_token_Of := ih
    clear ih
    intro l_1 R hh
    rw [token_Of_k] at hh
    refine start_token_Of rfl ?_
    refine awp_first fun K kk hK => ?_
    simp only [go_sem, ↓reduceIte, reduceCtorEq, Nat.reduceEqDiff, Nat.reduceAdd, Nat.reduceMul, Nat.reduceSub, Nat.reduceLT, Nat.reduceLeDiff, Nat.reducePow, Nat.reduceBEq, Nat.reduceBNe, Int.reduceNeg, Int.reduceBEq, Int.reduceBNe, Int.reduceAdd, Int.reduceSub, Int.reduceMul, Int.reduceLT, Int.reduceLE, Int.reduceToNat, Int.reduceEq, Int.reduceNe, List.take_length, take_map_len, runesOf_eq, runeBytes_map, an_token_Of, nf_token_Of, fp_token_Of, ty3, ty5, ty9, ty21, ty23, ty24, ty25, ty27, ty31, ty40, ty58, diptychlaw4_Cell.pv_eq, api_Attr.pv_eq, api_Node.pv_eq, place_Spot.pv_eq, token_Token.pv_eq, pvL, List.map_nil]
    refine hK _ _ fun nx => ?_; clear hK K; try clear kk
    refine awp_first fun K kk hK => ?_
    simp only [go_sem, ↓reduceIte, reduceCtorEq, Nat.reduceEqDiff, Nat.reduceAdd, Nat.reduceMul, Nat.reduceSub, Nat.reduceLT, Nat.reduceLeDiff, Nat.reducePow, Nat.reduceBEq, Nat.reduceBNe, Int.reduceNeg, Int.reduceBEq, Int.reduceBNe, Int.reduceAdd, Int.reduceSub, Int.reduceMul, Int.reduceLT, Int.reduceLE, Int.reduceToNat, Int.reduceEq, Int.reduceNe, List.take_length, take_map_len, runesOf_eq, runeBytes_map, an_token_Of, nf_token_Of, fp_token_Of, ty3, ty5, ty9, ty21, ty23, ty24, ty25, ty27, ty31, ty40, ty58, diptychlaw4_Cell.pv_eq, api_Attr.pv_eq, api_Node.pv_eq, place_Spot.pv_eq, token_Token.pv_eq, pvL, List.map_nil]
    refine hK _ _ fun nx => ?_; clear hK K; try clear kk
    refine awp_seq ?_
    refine awp_first fun K kk hK => ?_
    simp only [go_sem, ↓reduceIte, reduceCtorEq, Nat.reduceEqDiff, Nat.reduceAdd, Nat.reduceMul, Nat.reduceSub, Nat.reduceLT, Nat.reduceLeDiff, Nat.reducePow, Nat.reduceBEq, Nat.reduceBNe, Int.reduceNeg, Int.reduceBEq, Int.reduceBNe, Int.reduceAdd, Int.reduceSub, Int.reduceMul, Int.reduceLT, Int.reduceLE, Int.reduceToNat, Int.reduceEq, Int.reduceNe, List.take_length, take_map_len, runesOf_eq, runeBytes_map, an_token_Of, nf_token_Of, fp_token_Of, ty3, ty5, ty9, ty21, ty23, ty24, ty25, ty27, ty31, ty40, ty58, diptychlaw4_Cell.pv_eq, api_Attr.pv_eq, api_Node.pv_eq, place_Spot.pv_eq, token_Token.pv_eq, pvL, List.map_nil]
    refine hK _ _ fun nx => ?_; clear hK K; try clear kk
    obtain ⟨e0, f0, hh⟩ := bind_ex hh
    obtain ⟨hlen0, f0⟩ := chk_some f0
    refine awp_fragE (CutTo (fun s => ∃ out_48, out_48 = e0 ∧ ∃ (v_46 : Int) (v_47 : Bool) (nx : Nat) (g3 : Nat), s = ⟨[(3, .row 3 g3 out_48.length), (8, .list 5 (l_1.map api_Node.pv)), (9, .int .i64 (l_1.length : Int)), (10, .int .i64 v_46), (11, .bool v_47)], [(3, g3, .row false 3 (out_48.map token_Token.pv))], nx⟩))
      (fun i s => False)
      (fun s => False) ?_ ?_ ?_ ?_
    · refine awp_block ?_
      refine awp_loopJ fun I hI => ?_
      have key : ∀ (suf pre : List api_Node) (v_16 : Int) (out_17 : (List token_Token)), l_1 = pre ++ suf → v_16 = (pre.length : Int) → token_Of_l0 (token_Of_k kr) suf v_16 out_17 = some e0 → ∀ (nx : Nat) (g3 : Nat), I ⟨[(3, .row 3 g3 out_17.length), (8, .list 5 (l_1.map api_Node.pv)), (9, .int .i64 (l_1.length : Int)), (10, .int .i64 v_16)], [(3, g3, .row false 3 (out_17.map token_Token.pv))], nx⟩ := by
        intro suf
        induction suf with
        | nil =>
          intro pre v_16 out_17 hsplit hidx hh nx g3
          rw [token_Of_l0] at hh
          refine hI _ ?_
          have h29 := walk_nil hsplit hidx
          refine awp_first fun K kk hK => ?_
          simp only [go_sem, ↓reduceIte, reduceCtorEq, Nat.reduceEqDiff, Nat.reduceAdd, Nat.reduceMul, Nat.reduceSub, Nat.reduceLT, Nat.reduceLeDiff, Nat.reducePow, Nat.reduceBEq, Nat.reduceBNe, Int.reduceNeg, Int.reduceBEq, Int.reduceBNe, Int.reduceAdd, Int.reduceSub, Int.reduceMul, Int.reduceLT, Int.reduceLE, Int.reduceToNat, Int.reduceEq, Int.reduceNe, List.take_length, take_map_len, runesOf_eq, runeBytes_map, an_token_Of, nf_token_Of, fp_token_Of, ty3, ty5, ty9, ty21, ty23, ty24, ty25, ty27, ty31, ty40, ty58, diptychlaw4_Cell.pv_eq, api_Attr.pv_eq, api_Node.pv_eq, place_Spot.pv_eq, token_Token.pv_eq, pvL, List.map_nil]
          refine hK _ _ fun nx => ?_; clear hK K; try clear kk
          refine awp_seq ?_
          refine awp_false (by first | exact congrArg PV.bool h29 | rfl) ?_
          refine awp_exit ?_; (repeat (with_reducible first | refine then_n ?_ | refine then_r ?_ | refine then_e ?_ | refine block_n ?_ | refine block_r ?_ | refine exit_here ?_ | refine exit_on rfl ?_ | refine scope_n ?_ | refine scope_r ?_ | refine scope_e ?_ | refine cut_awp ?_))
          refine fragN ?_
          refine cut_id ?_
          refine ⟨_, (Option.some.inj hh), ?_⟩
          first | exact ⟨_, _, _, _, rfl⟩ | (simp only [diptychlaw4_Cell.pv_eq, api_Attr.pv_eq, api_Node.pv_eq, place_Spot.pv_eq, token_Token.pv_eq, pvL, List.map_cons, List.map_nil, List.map_append, rune1]; exact ⟨_, _, _, _, rfl⟩)
        | cons y_32 suf ih =>
          intro pre v_16 out_17 hsplit hidx hh nx g3
          rw [token_Of_l0] at hh
          refine hI _ ?_
          obtain ⟨hl0a, hl0b, hl0d, hl0w, h29⟩ := walk_cons (f := api_Node.pv) hsplit hidx hlen0
          refine awp_first fun K kk hK => ?_
          simp only [go_sem, ↓reduceIte, reduceCtorEq, Nat.reduceEqDiff, Nat.reduceAdd, Nat.reduceMul, Nat.reduceSub, Nat.reduceLT, Nat.reduceLeDiff, Nat.reducePow, Nat.reduceBEq, Nat.reduceBNe, Int.reduceNeg, Int.reduceBEq, Int.reduceBNe, Int.reduceAdd, Int.reduceSub, Int.reduceMul, Int.reduceLT, Int.reduceLE, Int.reduceToNat, Int.reduceEq, Int.reduceNe, List.take_length, take_map_len, runesOf_eq, runeBytes_map, an_token_Of, nf_token_Of, fp_token_Of, ty3, ty5, ty9, ty21, ty23, ty24, ty25, ty27, ty31, ty40, ty58, diptychlaw4_Cell.pv_eq, api_Attr.pv_eq, api_Node.pv_eq, place_Spot.pv_eq, token_Token.pv_eq, pvL, List.map_nil]
          refine hK _ _ fun nx => ?_; clear hK K; try clear kk
          refine awp_seq ?_
          refine awp_true (by first | exact congrArg PV.bool h29 | rfl) ?_
          refine awp_skip ?_; (repeat (with_reducible first | refine then_n ?_ | refine then_r ?_ | refine then_e ?_ | refine block_n ?_ | refine block_r ?_ | refine exit_here ?_ | refine exit_on rfl ?_ | refine scope_n ?_ | refine scope_r ?_ | refine scope_e ?_ | refine cut_awp ?_))
          refine awp_seq ?_
          refine awp_block ?_
          refine awp_first fun K kk hK => ?_
          simp only [go_sem, ↓reduceIte, reduceCtorEq, Nat.reduceEqDiff, Nat.reduceAdd, Nat.reduceMul, Nat.reduceSub, Nat.reduceLT, Nat.reduceLeDiff, Nat.reducePow, Nat.reduceBEq, Nat.reduceBNe, Int.reduceNeg, Int.reduceBEq, Int.reduceBNe, Int.reduceAdd, Int.reduceSub, Int.reduceMul, Int.reduceLT, Int.reduceLE, Int.reduceToNat, Int.reduceEq, Int.reduceNe, List.take_length, take_map_len, runesOf_eq, runeBytes_map, an_token_Of, nf_token_Of, fp_token_Of, ty3, ty5, ty9, ty21, ty23, ty24, ty25, ty27, ty31, ty40, ty58, diptychlaw4_Cell.pv_eq, api_Attr.pv_eq, api_Node.pv_eq, place_Spot.pv_eq, token_Token.pv_eq, pvL, List.map_nil, hl0a, hl0b, hl0d, hl0w]
          refine hK _ _ fun nx => ?_; clear hK K; try clear kk
          refine awp_seq ?_
          refine awp_first fun K kk hK => ?_
          simp only [go_sem, ↓reduceIte, reduceCtorEq, Nat.reduceEqDiff, Nat.reduceAdd, Nat.reduceMul, Nat.reduceSub, Nat.reduceLT, Nat.reduceLeDiff, Nat.reducePow, Nat.reduceBEq, Nat.reduceBNe, Int.reduceNeg, Int.reduceBEq, Int.reduceBNe, Int.reduceAdd, Int.reduceSub, Int.reduceMul, Int.reduceLT, Int.reduceLE, Int.reduceToNat, Int.reduceEq, Int.reduceNe, List.take_length, take_map_len, runesOf_eq, runeBytes_map, an_token_Of, nf_token_Of, fp_token_Of, ty3, ty5, ty9, ty21, ty23, ty24, ty25, ty27, ty31, ty40, ty58, diptychlaw4_Cell.pv_eq, api_Attr.pv_eq, api_Node.pv_eq, place_Spot.pv_eq, token_Token.pv_eq, pvL, List.map_nil, hl0a, hl0b, hl0d, hl0w]
          refine hK _ _ fun nx => ?_; clear hK K; try clear kk
          by_cases h30 : (y_32.Kind == ([116, 101, 120, 116] : Str)) = true
          · rw [if_pos h30] at hh
            refine awp_true (by first | exact congrArg PV.bool h30 | rfl) ?_
            refine awp_seq ?_
            refine awp_first fun K kk hK => ?_
            simp only [go_sem, ↓reduceIte, reduceCtorEq, Nat.reduceEqDiff, Nat.reduceAdd, Nat.reduceMul, Nat.reduceSub, Nat.reduceLT, Nat.reduceLeDiff, Nat.reducePow, Nat.reduceBEq, Nat.reduceBNe, Int.reduceNeg, Int.reduceBEq, Int.reduceBNe, Int.reduceAdd, Int.reduceSub, Int.reduceMul, Int.reduceLT, Int.reduceLE, Int.reduceToNat, Int.reduceEq, Int.reduceNe, List.take_length, take_map_len, runesOf_eq, runeBytes_map, an_token_Of, nf_token_Of, fp_token_Of, ty3, ty5, ty9, ty21, ty23, ty24, ty25, ty27, ty31, ty40, ty58, diptychlaw4_Cell.pv_eq, api_Attr.pv_eq, api_Node.pv_eq, place_Spot.pv_eq, token_Token.pv_eq, pvL, List.map_nil, hl0a, hl0b, hl0d, hl0w]
            refine hK _ _ fun nx => ?_; clear hK K; try clear kk
            obtain ⟨e7, f7, hh⟩ := bind_ex hh
            refine awp_fragE (CutTo (fun s => ∃ out_39, out_39 = e7 ∧ ∃ (v_40 : Nat) (nx : Nat) (g3 : Nat) (g5 : Nat) (g19 : Nat), s = ⟨[(3, .row 3 g3 out_39.length), (5, .box 5 g5 0), (8, .list 5 (l_1.map api_Node.pv)), (9, .int .i64 (l_1.length : Int)), (10, .int .i64 v_16), (19, .box 19 g19 0), (20, .tup [.bool false]), (21, .bool false)], [(3, g3, .row false 3 (out_39.map token_Token.pv)), (5, g5, .var [.str y_32.Kind, .str y_32.Text, .list 1 (y_32.Marks.map PV.str), .list 2 (y_32.Attrs.map api_Attr.pv), .list 5 (y_32.Kids.map api_Node.pv)]), (19, g19, .iter y_32.Text v_40)], nx⟩))
              (fun i s => False)
              (fun s => False) ?_ ?_ ?_ ?_
            · refine awp_block ?_
              refine awp_loopJ fun I hI => ?_
              obtain ⟨k, f7⟩ := lim_some f7
              have key : ∀ (k : Nat) (out_35 : (List token_Token)) (v_36 : Nat), token_Of_l7 y_32 k out_35 v_36 = some e7 → ∀ (nx : Nat) (g3 : Nat) (g5 : Nat) (g19 : Nat), I ⟨[(3, .row 3 g3 out_35.length), (5, .box 5 g5 0), (8, .list 5 (l_1.map api_Node.pv)), (9, .int .i64 (l_1.length : Int)), (10, .int .i64 v_16), (19, .box 19 g19 0)], [(3, g3, .row false 3 (out_35.map token_Token.pv)), (5, g5, .var [.str y_32.Kind, .str y_32.Text, .list 1 (y_32.Marks.map PV.str), .list 2 (y_32.Attrs.map api_Attr.pv), .list 5 (y_32.Kids.map api_Node.pv)]), (19, g19, .iter y_32.Text v_36)], nx⟩ := by
                intro k
                induction k with
                | zero => intro out_35 v_36 hh; rw [token_Of_l7] at hh; cases hh
                | succ k ih =>
                  intro out_35 v_36 hh nx g3 g5 g19
                  rw [token_Of_l7] at hh
                  refine hI _ ?_
                  refine awp_assoc ?_
                  refine awp_seq ?_
                  obtain ⟨e9, f9, hh⟩ := bind_ex hh
                  refine awp_frag (fun s => .inr () = e9 ∧ ∃ (nx : Nat) (g3 : Nat) (g5 : Nat) (g19 : Nat), s = ⟨[(3, .row 3 g3 out_35.length), (5, .box 5 g5 0), (8, .list 5 (l_1.map api_Node.pv)), (9, .int .i64 (l_1.length : Int)), (10, .int .i64 v_16), (19, .box 19 g19 0), (20, .tup [.bool true, .int .i64 (v_36 : Int), .int .i32 (runeAt y_32.Text v_36)]), (21, .bool true)], [(3, g3, .row false 3 (out_35.map token_Token.pv)), (5, g5, .var [.str y_32.Kind, .str y_32.Text, .list 1 (y_32.Marks.map PV.str), .list 2 (y_32.Attrs.map api_Attr.pv), .list 5 (y_32.Kids.map api_Node.pv)]), (19, g19, .iter y_32.Text (v_36 + runeW y_32.Text v_36))], nx⟩)
                    (fun i s => (i = 2 ∧ .inl () = e9 ∧ ∃ (nx : Nat) (g3 : Nat) (g5 : Nat) (g19 : Nat), s = ⟨[(3, .row 3 g3 out_35.length), (5, .box 5 g5 0), (8, .list 5 (l_1.map api_Node.pv)), (9, .int .i64 (l_1.length : Int)), (10, .int .i64 v_16), (19, .box 19 g19 0), (20, .tup [.bool false]), (21, .bool false)], [(3, g3, .row false 3 (out_35.map token_Token.pv)), (5, g5, .var [.str y_32.Kind, .str y_32.Text, .list 1 (y_32.Marks.map PV.str), .list 2 (y_32.Attrs.map api_Attr.pv), .list 5 (y_32.Kids.map api_Node.pv)]), (19, g19, .iter y_32.Text v_36)], nx⟩))
                    (fun s => False) ?_ ?_ ?_ ?_
                  · have hh := f9
                    by_cases h34 : (decide (v_36 < y_32.Text.length)) = true
                    · rw [if_pos h34] at hh
                      refine awp_first fun K kk hK => ?_
                      simp only [go_sem, ↓reduceIte, reduceCtorEq, Nat.reduceEqDiff, Nat.reduceAdd, Nat.reduceMul, Nat.reduceSub, Nat.reduceLT, Nat.reduceLeDiff, Nat.reducePow, Nat.reduceBEq, Nat.reduceBNe, Int.reduceNeg, Int.reduceBEq, Int.reduceBNe, Int.reduceAdd, Int.reduceSub, Int.reduceMul, Int.reduceLT, Int.reduceLE, Int.reduceToNat, Int.reduceEq, Int.reduceNe, List.take_length, take_map_len, runesOf_eq, runeBytes_map, an_token_Of, nf_token_Of, fp_token_Of, ty3, ty5, ty9, ty21, ty23, ty24, ty25, ty27, ty31, ty40, ty58, diptychlaw4_Cell.pv_eq, api_Attr.pv_eq, api_Node.pv_eq, place_Spot.pv_eq, token_Token.pv_eq, pvL, List.map_nil, h34, of_decide_eq_true h34, hl0a, hl0b, hl0d, hl0w]
                      (repeat (refine And.intro (by first | assumption | (try simp only [List.length_append, List.length_cons, List.length_nil] at *; omega)) ?_))
                      refine hK _ _ fun nx => ?_; clear hK K; try clear kk
                      refine awp_true rfl ?_
                      refine awp_skip ?_; (repeat (with_reducible first | refine then_n ?_ | refine then_r ?_ | refine then_e ?_ | refine block_n ?_ | refine block_r ?_ | refine exit_here ?_ | refine exit_on rfl ?_ | refine scope_n ?_ | refine scope_r ?_ | refine scope_e ?_ | refine cut_awp ?_))
                      refine fragN ?_
                      refine cut_id ?_
                      refine ⟨(Option.some.inj hh), ?_⟩
                      first | exact ⟨_, _, _, _, rfl⟩ | (simp only [diptychlaw4_Cell.pv_eq, api_Attr.pv_eq, api_Node.pv_eq, place_Spot.pv_eq, token_Token.pv_eq, pvL, List.map_cons, List.map_nil, List.map_append, rune1]; exact ⟨_, _, _, _, rfl⟩)
                    · rw [if_neg h34] at hh
                      replace h34 := Bool.eq_false_iff.mpr h34
                      refine awp_first fun K kk hK => ?_
                      simp only [go_sem, ↓reduceIte, reduceCtorEq, Nat.reduceEqDiff, Nat.reduceAdd, Nat.reduceMul, Nat.reduceSub, Nat.reduceLT, Nat.reduceLeDiff, Nat.reducePow, Nat.reduceBEq, Nat.reduceBNe, Int.reduceNeg, Int.reduceBEq, Int.reduceBNe, Int.reduceAdd, Int.reduceSub, Int.reduceMul, Int.reduceLT, Int.reduceLE, Int.reduceToNat, Int.reduceEq, Int.reduceNe, List.take_length, take_map_len, runesOf_eq, runeBytes_map, an_token_Of, nf_token_Of, fp_token_Of, ty3, ty5, ty9, ty21, ty23, ty24, ty25, ty27, ty31, ty40, ty58, diptychlaw4_Cell.pv_eq, api_Attr.pv_eq, api_Node.pv_eq, place_Spot.pv_eq, token_Token.pv_eq, pvL, List.map_nil, h34, of_decide_eq_false h34, hl0a, hl0b, hl0d, hl0w]
                      (repeat (refine And.intro (by first | assumption | (try simp only [List.length_append, List.length_cons, List.length_nil] at *; omega)) ?_))
                      refine hK _ _ fun nx => ?_; clear hK K; try clear kk
                      refine awp_false rfl ?_
                      refine awp_exit ?_; (repeat (with_reducible first | refine then_n ?_ | refine then_r ?_ | refine then_e ?_ | refine block_n ?_ | refine block_r ?_ | refine exit_here ?_ | refine exit_on rfl ?_ | refine scope_n ?_ | refine scope_r ?_ | refine scope_e ?_ | refine cut_awp ?_))
                      refine fragE ⟨rfl, (Option.some.inj hh), ?_⟩
                      first | exact ⟨_, _, _, _, rfl⟩ | (simp only [diptychlaw4_Cell.pv_eq, api_Attr.pv_eq, api_Node.pv_eq, place_Spot.pv_eq, token_Token.pv_eq, pvL, List.map_cons, List.map_nil, List.map_append, rune1]; exact ⟨_, _, _, _, rfl⟩)
                  · rintro s ⟨rfl, nx, g3, g5, g19, rfl⟩
                    try dsimp only at hh
                    refine awp_block ?_
                    refine awp_first fun K kk hK => ?_
                    simp only [go_sem, ↓reduceIte, reduceCtorEq, Nat.reduceEqDiff, Nat.reduceAdd, Nat.reduceMul, Nat.reduceSub, Nat.reduceLT, Nat.reduceLeDiff, Nat.reducePow, Nat.reduceBEq, Nat.reduceBNe, Int.reduceNeg, Int.reduceBEq, Int.reduceBNe, Int.reduceAdd, Int.reduceSub, Int.reduceMul, Int.reduceLT, Int.reduceLE, Int.reduceToNat, Int.reduceEq, Int.reduceNe, List.take_length, take_map_len, runesOf_eq, runeBytes_map, an_token_Of, nf_token_Of, fp_token_Of, ty3, ty5, ty9, ty21, ty23, ty24, ty25, ty27, ty31, ty40, ty58, diptychlaw4_Cell.pv_eq, api_Attr.pv_eq, api_Node.pv_eq, place_Spot.pv_eq, token_Token.pv_eq, pvL, List.map_nil, hl0a, hl0b, hl0d, hl0w]
                    refine hK _ _ fun nx => ?_; clear hK K; try clear kk
                    obtain ⟨head_37, h35, hh⟩ := bind_ex hh
                    obtain ⟨l_38, h36, hh⟩ := bind_ex hh
                    obtain ⟨h36a, h36c⟩ := app_some h36
                    have h36d := app_map (f := token_Token.pv) h36c
                    have h36e := app_len h36c
                    try simp only [List.length_cons, List.length_nil, Nat.zero_add, Nat.reduceAdd] at h36a h36e
                    try simp only [h36e] at h36a
                    try simp only [List.map_cons, List.map_nil, List.nil_append, List.append_nil, List.cons_append, List.singleton_append, rune1, diptychlaw4_Cell.pv_eq, api_Attr.pv_eq, api_Node.pv_eq, place_Spot.pv_eq, token_Token.pv_eq, pvL] at h36d
                    refine awp_region fun K kk hK => ?_
                    simp only [go_sem, ↓reduceIte, reduceCtorEq, Nat.reduceEqDiff, Nat.reduceAdd, Nat.reduceMul, Nat.reduceSub, Nat.reduceLT, Nat.reduceLeDiff, Nat.reducePow, Nat.reduceBEq, Nat.reduceBNe, Int.reduceNeg, Int.reduceBEq, Int.reduceBNe, Int.reduceAdd, Int.reduceSub, Int.reduceMul, Int.reduceLT, Int.reduceLE, Int.reduceToNat, Int.reduceEq, Int.reduceNe, List.take_length, take_map_len, runesOf_eq, runeBytes_map, an_token_Of, nf_token_Of, fp_token_Of, ty3, ty5, ty9, ty21, ty23, ty24, ty25, ty27, ty31, ty40, ty58, diptychlaw4_Cell.pv_eq, api_Attr.pv_eq, api_Node.pv_eq, place_Spot.pv_eq, token_Token.pv_eq, pvL, List.map_nil, h36a, h36d, h36e, hl0a, hl0b, hl0d, hl0w]
                    (repeat (refine And.intro (by first | assumption | (try simp only [List.length_append, List.length_cons, List.length_nil] at *; omega)) ?_))
                    refine step_call2 (codec_Head_ok _ _ h35) (by try simp only [go_sem, ↓reduceIte, reduceCtorEq, Nat.reduceEqDiff, Nat.reduceAdd, Nat.reduceMul, Nat.reduceSub, Nat.reduceLT, Nat.reduceLeDiff, Nat.reducePow, Nat.reduceBEq, Nat.reduceBNe, Int.reduceNeg, Int.reduceBEq, Int.reduceBNe, Int.reduceAdd, Int.reduceSub, Int.reduceMul, Int.reduceLT, Int.reduceLE, Int.reduceToNat, Int.reduceEq, Int.reduceNe, List.take_length, take_map_len, runesOf_eq, runeBytes_map, an_token_Of, nf_token_Of, fp_token_Of, ty3, ty5, ty9, ty21, ty23, ty24, ty25, ty27, ty31, ty40, ty58, diptychlaw4_Cell.pv_eq, api_Attr.pv_eq, api_Node.pv_eq, place_Spot.pv_eq, token_Token.pv_eq, pvL, List.map_nil, h36a, h36d, h36e, hl0a, hl0b, hl0d, hl0w]; (repeat (first | exact WkL.refl _ | exact Wk.refl _ | exact Wk.nil _ | refine WkL.cons _ _ _ _ ?_ ?_ | exact WkL.nil | refine Wk.agg _ _ ?_ | refine Wk.tup _ _ ?_))) (by rfl) (by rfl) ?_
                    simp only [go_sem, ↓reduceIte, reduceCtorEq, Nat.reduceEqDiff, Nat.reduceAdd, Nat.reduceMul, Nat.reduceSub, Nat.reduceLT, Nat.reduceLeDiff, Nat.reducePow, Nat.reduceBEq, Nat.reduceBNe, Int.reduceNeg, Int.reduceBEq, Int.reduceBNe, Int.reduceAdd, Int.reduceSub, Int.reduceMul, Int.reduceLT, Int.reduceLE, Int.reduceToNat, Int.reduceEq, Int.reduceNe, List.take_length, take_map_len, runesOf_eq, runeBytes_map, an_token_Of, nf_token_Of, fp_token_Of, ty3, ty5, ty9, ty21, ty23, ty24, ty25, ty27, ty31, ty40, ty58, diptychlaw4_Cell.pv_eq, api_Attr.pv_eq, api_Node.pv_eq, place_Spot.pv_eq, token_Token.pv_eq, pvL, List.map_nil, h36a, h36d, h36e, hl0a, hl0b, hl0d, hl0w]
                    (repeat (refine And.intro (by first | assumption | (try simp only [List.length_append, List.length_cons, List.length_nil] at *; omega)) ?_))
                    refine hK _ _ fun nx => ?_; clear hK K; try clear kk
                    (repeat (with_reducible first | refine then_n ?_ | refine then_r ?_ | refine then_e ?_ | refine block_n ?_ | refine block_r ?_ | refine exit_here ?_ | refine exit_on rfl ?_ | refine scope_n ?_ | refine scope_r ?_ | refine scope_e ?_ | refine cut_awp ?_))
                    have ih' := ih _ _ hh nx
                    refine cut_id ?_
                    first | exact ih' _ _ _ | (simp only [diptychlaw4_Cell.pv_eq, api_Attr.pv_eq, api_Node.pv_eq, place_Spot.pv_eq, token_Token.pv_eq, pvL, List.map_cons, List.map_nil, List.map_append, rune1, h36e] at ih' ⊢; exact ih' _ _ _)
                  · intro i s h
                    obtain ⟨rfl, rfl, nx, g3, g5, g19, rfl⟩ := h
                    try dsimp only at hh
                    (repeat (with_reducible first | refine then_n ?_ | refine then_r ?_ | refine then_e ?_ | refine block_n ?_ | refine block_r ?_ | refine exit_here ?_ | refine exit_on rfl ?_ | refine scope_n ?_ | refine scope_r ?_ | refine scope_e ?_ | refine cut_awp ?_))
                    refine fragN ?_
                    refine cut_id ?_
                    refine ⟨_, (Option.some.inj hh), ?_⟩
                    first | exact ⟨_, _, _, _, _, rfl⟩ | (simp only [diptychlaw4_Cell.pv_eq, api_Attr.pv_eq, api_Node.pv_eq, place_Spot.pv_eq, token_Token.pv_eq, pvL, List.map_cons, List.map_nil, List.map_append, rune1]; exact ⟨_, _, _, _, _, rfl⟩)
                  · intro s h; exact h.elim
              exact key _ _ _ f7 _ _ _ _
            · rintro s ⟨t, hless, out_39, rfl, v_40, nx, g3, g5, g19, rfl⟩
              try dsimp only at hh
              (repeat (with_reducible first | refine then_n ?_ | refine then_r ?_ | refine then_e ?_ | refine block_n ?_ | refine block_r ?_ | refine exit_here ?_ | refine exit_on rfl ?_ | refine scope_n ?_ | refine scope_r ?_ | refine scope_e ?_))
              first | (refine cut_less hless ?_; try refine cut_awp ?_) | refine frag_less hless ?_
              refine awp_exit ?_; (repeat (with_reducible first | refine then_n ?_ | refine then_r ?_ | refine then_e ?_ | refine block_n ?_ | refine block_r ?_ | refine exit_here ?_ | refine exit_on rfl ?_ | refine scope_n ?_ | refine scope_r ?_ | refine scope_e ?_ | refine cut_awp ?_))
              refine awp_region fun K kk hK => ?_
              simp only [go_sem, ↓reduceIte, reduceCtorEq, Nat.reduceEqDiff, Nat.reduceAdd, Nat.reduceMul, Nat.reduceSub, Nat.reduceLT, Nat.reduceLeDiff, Nat.reducePow, Nat.reduceBEq, Nat.reduceBNe, Int.reduceNeg, Int.reduceBEq, Int.reduceBNe, Int.reduceAdd, Int.reduceSub, Int.reduceMul, Int.reduceLT, Int.reduceLE, Int.reduceToNat, Int.reduceEq, Int.reduceNe, List.take_length, take_map_len, runesOf_eq, runeBytes_map, an_token_Of, nf_token_Of, fp_token_Of, ty3, ty5, ty9, ty21, ty23, ty24, ty25, ty27, ty31, ty40, ty58, diptychlaw4_Cell.pv_eq, api_Attr.pv_eq, api_Node.pv_eq, place_Spot.pv_eq, token_Token.pv_eq, pvL, List.map_nil, hl0a, hl0b, hl0d, hl0w]
              refine hK _ _ fun nx => ?_; clear hK K; try clear kk
              (repeat (with_reducible first | refine then_n ?_ | refine then_r ?_ | refine then_e ?_ | refine block_n ?_ | refine block_r ?_ | refine exit_here ?_ | refine exit_on rfl ?_ | refine scope_n ?_ | refine scope_r ?_ | refine scope_e ?_ | refine cut_awp ?_))
              have ih' := ih (pre ++ [y_32]) (v_16 + 1) _ (by rw [hsplit]; simp) (by simp [hidx]) hh nx
              refine cut_id ?_
              first | exact ih' _ | (simp only [diptychlaw4_Cell.pv_eq, api_Attr.pv_eq, api_Node.pv_eq, place_Spot.pv_eq, token_Token.pv_eq, pvL, List.map_cons, List.map_nil, List.map_append, rune1] at ih' ⊢; exact ih' _)
            · intro i s h; exact h.elim
            · intro s h; exact h.elim
          · rw [if_neg h30] at hh
            replace h30 := Bool.eq_false_iff.mpr h30
            refine awp_false (by first | exact congrArg PV.bool h30 | rfl) ?_
            refine awp_skip ?_; (repeat (with_reducible first | refine then_n ?_ | refine then_r ?_ | refine then_e ?_ | refine block_n ?_ | refine block_r ?_ | refine exit_here ?_ | refine exit_on rfl ?_ | refine scope_n ?_ | refine scope_r ?_ | refine scope_e ?_ | refine cut_awp ?_))
            obtain ⟨head_41, h37, hh⟩ := bind_ex hh
            obtain ⟨l_42, h38, hh⟩ := bind_ex hh
            obtain ⟨h38a, h38c⟩ := app_some h38
            have h38d := app_map (f := token_Token.pv) h38c
            have h38e := app_len h38c
            try simp only [List.length_cons, List.length_nil, Nat.zero_add, Nat.reduceAdd] at h38a h38e
            try simp only [h38e] at h38a
            try simp only [List.map_cons, List.map_nil, List.nil_append, List.append_nil, List.cons_append, List.singleton_append, rune1, diptychlaw4_Cell.pv_eq, api_Attr.pv_eq, api_Node.pv_eq, place_Spot.pv_eq, token_Token.pv_eq, pvL] at h38d
            refine awp_first fun K kk hK => ?_
            simp only [go_sem, ↓reduceIte, reduceCtorEq, Nat.reduceEqDiff, Nat.reduceAdd, Nat.reduceMul, Nat.reduceSub, Nat.reduceLT, Nat.reduceLeDiff, Nat.reducePow, Nat.reduceBEq, Nat.reduceBNe, Int.reduceNeg, Int.reduceBEq, Int.reduceBNe, Int.reduceAdd, Int.reduceSub, Int.reduceMul, Int.reduceLT, Int.reduceLE, Int.reduceToNat, Int.reduceEq, Int.reduceNe, List.take_length, take_map_len, runesOf_eq, runeBytes_map, an_token_Of, nf_token_Of, fp_token_Of, ty3, ty5, ty9, ty21, ty23, ty24, ty25, ty27, ty31, ty40, ty58, diptychlaw4_Cell.pv_eq, api_Attr.pv_eq, api_Node.pv_eq, place_Spot.pv_eq, token_Token.pv_eq, pvL, List.map_nil, h38a, h38d, h38e, hl0a, hl0b, hl0d, hl0w]
            (repeat (refine And.intro (by first | assumption | (try simp only [List.length_append, List.length_cons, List.length_nil] at *; omega)) ?_))
            refine step_call2 (codec_Head_ok _ _ h37) (by try simp only [go_sem, ↓reduceIte, reduceCtorEq, Nat.reduceEqDiff, Nat.reduceAdd, Nat.reduceMul, Nat.reduceSub, Nat.reduceLT, Nat.reduceLeDiff, Nat.reducePow, Nat.reduceBEq, Nat.reduceBNe, Int.reduceNeg, Int.reduceBEq, Int.reduceBNe, Int.reduceAdd, Int.reduceSub, Int.reduceMul, Int.reduceLT, Int.reduceLE, Int.reduceToNat, Int.reduceEq, Int.reduceNe, List.take_length, take_map_len, runesOf_eq, runeBytes_map, an_token_Of, nf_token_Of, fp_token_Of, ty3, ty5, ty9, ty21, ty23, ty24, ty25, ty27, ty31, ty40, ty58, diptychlaw4_Cell.pv_eq, api_Attr.pv_eq, api_Node.pv_eq, place_Spot.pv_eq, token_Token.pv_eq, pvL, List.map_nil, h38a, h38d, h38e, hl0a, hl0b, hl0d, hl0w]; (repeat (first | exact WkL.refl _ | exact Wk.refl _ | exact Wk.nil _ | refine WkL.cons _ _ _ _ ?_ ?_ | exact WkL.nil | refine Wk.agg _ _ ?_ | refine Wk.tup _ _ ?_))) (by rfl) (by rfl) ?_
            simp only [go_sem, ↓reduceIte, reduceCtorEq, Nat.reduceEqDiff, Nat.reduceAdd, Nat.reduceMul, Nat.reduceSub, Nat.reduceLT, Nat.reduceLeDiff, Nat.reducePow, Nat.reduceBEq, Nat.reduceBNe, Int.reduceNeg, Int.reduceBEq, Int.reduceBNe, Int.reduceAdd, Int.reduceSub, Int.reduceMul, Int.reduceLT, Int.reduceLE, Int.reduceToNat, Int.reduceEq, Int.reduceNe, List.take_length, take_map_len, runesOf_eq, runeBytes_map, an_token_Of, nf_token_Of, fp_token_Of, ty3, ty5, ty9, ty21, ty23, ty24, ty25, ty27, ty31, ty40, ty58, diptychlaw4_Cell.pv_eq, api_Attr.pv_eq, api_Node.pv_eq, place_Spot.pv_eq, token_Token.pv_eq, pvL, List.map_nil, h38a, h38d, h38e, hl0a, hl0b, hl0d, hl0w]
            (repeat (refine And.intro (by first | assumption | (try simp only [List.length_append, List.length_cons, List.length_nil] at *; omega)) ?_))
            refine hK _ _ fun nx => ?_; clear hK K; try clear kk
            obtain ⟨of_43, h39, hh⟩ := bind_ex hh
            obtain ⟨l_44, h40, hh⟩ := bind_ex hh
            obtain ⟨h40a, h40c⟩ := app_some h40
            have h40d := app_map (f := token_Token.pv) h40c
            have h40e := app_len h40c
            try simp only [List.length_cons, List.length_nil, Nat.zero_add, Nat.reduceAdd] at h40a h40e
            try simp only [h40e] at h40a
            try simp only [List.map_cons, List.map_nil, List.nil_append, List.append_nil, List.cons_append, List.singleton_append, rune1, diptychlaw4_Cell.pv_eq, api_Attr.pv_eq, api_Node.pv_eq, place_Spot.pv_eq, token_Token.pv_eq, pvL] at h40d
            refine awp_first fun K kk hK => ?_
            simp only [go_sem, ↓reduceIte, reduceCtorEq, Nat.reduceEqDiff, Nat.reduceAdd, Nat.reduceMul, Nat.reduceSub, Nat.reduceLT, Nat.reduceLeDiff, Nat.reducePow, Nat.reduceBEq, Nat.reduceBNe, Int.reduceNeg, Int.reduceBEq, Int.reduceBNe, Int.reduceAdd, Int.reduceSub, Int.reduceMul, Int.reduceLT, Int.reduceLE, Int.reduceToNat, Int.reduceEq, Int.reduceNe, List.take_length, take_map_len, runesOf_eq, runeBytes_map, an_token_Of, nf_token_Of, fp_token_Of, ty3, ty5, ty9, ty21, ty23, ty24, ty25, ty27, ty31, ty40, ty58, diptychlaw4_Cell.pv_eq, api_Attr.pv_eq, api_Node.pv_eq, place_Spot.pv_eq, token_Token.pv_eq, pvL, List.map_nil, h40a, h40d, h40e, hl0a, hl0b, hl0d, hl0w]
            (repeat (refine And.intro (by first | assumption | (try simp only [List.length_append, List.length_cons, List.length_nil] at *; omega)) ?_))
            refine step_call2 (ih_token_Of _ _ h39).list (by try simp only [go_sem, ↓reduceIte, reduceCtorEq, Nat.reduceEqDiff, Nat.reduceAdd, Nat.reduceMul, Nat.reduceSub, Nat.reduceLT, Nat.reduceLeDiff, Nat.reducePow, Nat.reduceBEq, Nat.reduceBNe, Int.reduceNeg, Int.reduceBEq, Int.reduceBNe, Int.reduceAdd, Int.reduceSub, Int.reduceMul, Int.reduceLT, Int.reduceLE, Int.reduceToNat, Int.reduceEq, Int.reduceNe, List.take_length, take_map_len, runesOf_eq, runeBytes_map, an_token_Of, nf_token_Of, fp_token_Of, ty3, ty5, ty9, ty21, ty23, ty24, ty25, ty27, ty31, ty40, ty58, diptychlaw4_Cell.pv_eq, api_Attr.pv_eq, api_Node.pv_eq, place_Spot.pv_eq, token_Token.pv_eq, pvL, List.map_nil, h40a, h40d, h40e, hl0a, hl0b, hl0d, hl0w]; (repeat (first | exact WkL.refl _ | exact Wk.refl _ | exact Wk.nil _ | refine WkL.cons _ _ _ _ ?_ ?_ | exact WkL.nil | refine Wk.agg _ _ ?_ | refine Wk.tup _ _ ?_))) (by rfl) (by rfl) ?_
            simp only [go_sem, ↓reduceIte, reduceCtorEq, Nat.reduceEqDiff, Nat.reduceAdd, Nat.reduceMul, Nat.reduceSub, Nat.reduceLT, Nat.reduceLeDiff, Nat.reducePow, Nat.reduceBEq, Nat.reduceBNe, Int.reduceNeg, Int.reduceBEq, Int.reduceBNe, Int.reduceAdd, Int.reduceSub, Int.reduceMul, Int.reduceLT, Int.reduceLE, Int.reduceToNat, Int.reduceEq, Int.reduceNe, List.take_length, take_map_len, runesOf_eq, runeBytes_map, an_token_Of, nf_token_Of, fp_token_Of, ty3, ty5, ty9, ty21, ty23, ty24, ty25, ty27, ty31, ty40, ty58, diptychlaw4_Cell.pv_eq, api_Attr.pv_eq, api_Node.pv_eq, place_Spot.pv_eq, token_Token.pv_eq, pvL, List.map_nil, h40a, h40d, h40e, hl0a, hl0b, hl0d, hl0w]
            (repeat (refine And.intro (by first | assumption | (try simp only [List.length_append, List.length_cons, List.length_nil] at *; omega)) ?_))
            refine hK _ _ fun nx => ?_; clear hK K; try clear kk
            obtain ⟨l_45, h41, hh⟩ := bind_ex hh
            obtain ⟨h41a, h41c⟩ := app_some h41
            have h41d := app_map (f := token_Token.pv) h41c
            have h41e := app_len h41c
            try simp only [List.length_cons, List.length_nil, Nat.zero_add, Nat.reduceAdd] at h41a h41e
            try simp only [h41e] at h41a
            try simp only [List.map_cons, List.map_nil, List.nil_append, List.append_nil, List.cons_append, List.singleton_append, rune1, diptychlaw4_Cell.pv_eq, api_Attr.pv_eq, api_Node.pv_eq, place_Spot.pv_eq, token_Token.pv_eq, pvL] at h41d
            refine awp_region fun K kk hK => ?_
            simp only [go_sem, ↓reduceIte, reduceCtorEq, Nat.reduceEqDiff, Nat.reduceAdd, Nat.reduceMul, Nat.reduceSub, Nat.reduceLT, Nat.reduceLeDiff, Nat.reducePow, Nat.reduceBEq, Nat.reduceBNe, Int.reduceNeg, Int.reduceBEq, Int.reduceBNe, Int.reduceAdd, Int.reduceSub, Int.reduceMul, Int.reduceLT, Int.reduceLE, Int.reduceToNat, Int.reduceEq, Int.reduceNe, List.take_length, take_map_len, runesOf_eq, runeBytes_map, an_token_Of, nf_token_Of, fp_token_Of, ty3, ty5, ty9, ty21, ty23, ty24, ty25, ty27, ty31, ty40, ty58, diptychlaw4_Cell.pv_eq, api_Attr.pv_eq, api_Node.pv_eq, place_Spot.pv_eq, token_Token.pv_eq, pvL, List.map_nil, h41a, h41d, h41e, hl0a, hl0b, hl0d, hl0w]
            (repeat (refine And.intro (by first | assumption | (try simp only [List.length_append, List.length_cons, List.length_nil] at *; omega)) ?_))
            refine hK _ _ fun nx => ?_; clear hK K; try clear kk
            (repeat (with_reducible first | refine then_n ?_ | refine then_r ?_ | refine then_e ?_ | refine block_n ?_ | refine block_r ?_ | refine exit_here ?_ | refine exit_on rfl ?_ | refine scope_n ?_ | refine scope_r ?_ | refine scope_e ?_ | refine cut_awp ?_))
            refine awp_region fun K kk hK => ?_
            simp only [go_sem, ↓reduceIte, reduceCtorEq, Nat.reduceEqDiff, Nat.reduceAdd, Nat.reduceMul, Nat.reduceSub, Nat.reduceLT, Nat.reduceLeDiff, Nat.reducePow, Nat.reduceBEq, Nat.reduceBNe, Int.reduceNeg, Int.reduceBEq, Int.reduceBNe, Int.reduceAdd, Int.reduceSub, Int.reduceMul, Int.reduceLT, Int.reduceLE, Int.reduceToNat, Int.reduceEq, Int.reduceNe, List.take_length, take_map_len, runesOf_eq, runeBytes_map, an_token_Of, nf_token_Of, fp_token_Of, ty3, ty5, ty9, ty21, ty23, ty24, ty25, ty27, ty31, ty40, ty58, diptychlaw4_Cell.pv_eq, api_Attr.pv_eq, api_Node.pv_eq, place_Spot.pv_eq, token_Token.pv_eq, pvL, List.map_nil, hl0a, hl0b, hl0d, hl0w]
            refine hK _ _ fun nx => ?_; clear hK K; try clear kk
            (repeat (with_reducible first | refine then_n ?_ | refine then_r ?_ | refine then_e ?_ | refine block_n ?_ | refine block_r ?_ | refine exit_here ?_ | refine exit_on rfl ?_ | refine scope_n ?_ | refine scope_r ?_ | refine scope_e ?_ | refine cut_awp ?_))
            have ih' := ih (pre ++ [y_32]) (v_16 + 1) _ (by rw [hsplit]; simp) (by simp [hidx]) hh nx
            refine cut_id ?_
            first | exact ih' _ | (simp only [diptychlaw4_Cell.pv_eq, api_Attr.pv_eq, api_Node.pv_eq, place_Spot.pv_eq, token_Token.pv_eq, pvL, List.map_cons, List.map_nil, List.map_append, rune1, h38e, h40e, h41e] at ih' ⊢; exact ih' _)
      exact key l_1 [] _ _ rfl rfl f0 _ _
    · rintro s ⟨t, hless, out_48, rfl, v_46, v_47, nx, g3, rfl⟩
      try dsimp only at hh
      (repeat (with_reducible first | refine then_n ?_ | refine then_r ?_ | refine then_e ?_ | refine block_n ?_ | refine block_r ?_ | refine exit_here ?_ | refine exit_on rfl ?_ | refine scope_n ?_ | refine scope_r ?_ | refine scope_e ?_))
      first | (refine cut_less hless ?_; try refine cut_awp ?_) | refine frag_less hless ?_
      refine awp_first fun K kk hK => ?_
      simp only [go_sem, ↓reduceIte, reduceCtorEq, Nat.reduceEqDiff, Nat.reduceAdd, Nat.reduceMul, Nat.reduceSub, Nat.reduceLT, Nat.reduceLeDiff, Nat.reducePow, Nat.reduceBEq, Nat.reduceBNe, Int.reduceNeg, Int.reduceBEq, Int.reduceBNe, Int.reduceAdd, Int.reduceSub, Int.reduceMul, Int.reduceLT, Int.reduceLE, Int.reduceToNat, Int.reduceEq, Int.reduceNe, List.take_length, take_map_len, runesOf_eq, runeBytes_map, an_token_Of, nf_token_Of, fp_token_Of, ty3, ty5, ty9, ty21, ty23, ty24, ty25, ty27, ty31, ty40, ty58, diptychlaw4_Cell.pv_eq, api_Attr.pv_eq, api_Node.pv_eq, place_Spot.pv_eq, token_Token.pv_eq, pvL, List.map_nil]
      refine hK _ _ fun nx => ?_; clear hK K; try clear kk
      refine awp_ret ?_; (repeat (with_reducible first | refine then_n ?_ | refine then_r ?_ | refine then_e ?_ | refine block_n ?_ | refine block_r ?_ | refine exit_here ?_ | refine exit_on rfl ?_ | refine scope_n ?_ | refine scope_r ?_ | refine scope_e ?_ | refine cut_awp ?_))
      obtain hR := Option.some.inj hh
      subst hR
      exact ret_own (by rfl) (by rfl) (by rfl) (by simp only [List.length_map, List.length_cons, List.length_nil, Nat.zero_add, Nat.reduceAdd]) (by first | rfl | (simp only [diptychlaw4_Cell.pv_eq, api_Attr.pv_eq, api_Node.pv_eq, place_Spot.pv_eq, token_Token.pv_eq, pvL, List.map_cons, List.map_nil, List.map_append, rune1]; done) | (simp only [diptychlaw4_Cell.pv_eq, api_Attr.pv_eq, api_Node.pv_eq, place_Spot.pv_eq, token_Token.pv_eq, pvL, List.map_cons, List.map_nil, List.map_append, rune1]; rfl))
    · intro i s h; exact h.elim
    · intro s h; exact h.elim
theorem token_Of_ok (l_1 : (List api_Node)) (R : (List token_Token)) (hh : token_Of l_1 = some R) : PC Tryd.prog 18 [.list 5 (l_1.map api_Node.pv)] (.own 3 (R.map token_Token.pv)) := by
  rw [token_Of] at hh
  obtain ⟨kr, hh⟩ := lim_some hh
  exact (token_Of_grp kr) _ _ hh
theorem node_isText_ok (n_1 : api_Node) (R : Bool) (hh : node_isText n_1 = some R) : PC Tryd.prog 63 [.agg [.str n_1.Kind, .str n_1.Text, .list 1 (n_1.Marks.map PV.str), .list 2 (n_1.Attrs.map api_Attr.pv), .list 5 (n_1.Kids.map api_Node.pv)]] (.bool R) := by
  rw [node_isText] at hh
  refine start_node_isText rfl ?_
  refine awp_first fun K kk hK => ?_
  simp only [go_sem, ↓reduceIte, reduceCtorEq, Nat.reduceEqDiff, Nat.reduceAdd, Nat.reduceMul, Nat.reduceSub, Nat.reduceLT, Nat.reduceLeDiff, Nat.reducePow, Nat.reduceBEq, Nat.reduceBNe, Int.reduceNeg, Int.reduceBEq, Int.reduceBNe, Int.reduceAdd, Int.reduceSub, Int.reduceMul, Int.reduceLT, Int.reduceLE, Int.reduceToNat, Int.reduceEq, Int.reduceNe, List.take_length, take_map_len, runesOf_eq, runeBytes_map, an_node_isText, nf_node_isText, fp_node_isText, ty9, ty23, ty24, ty25, ty27, ty58, diptychlaw4_Cell.pv_eq, api_Attr.pv_eq, api_Node.pv_eq, place_Spot.pv_eq, token_Token.pv_eq, pvL, List.map_nil]
  refine hK _ _ fun nx => ?_; clear hK K; try clear kk
  refine awp_first fun K kk hK => ?_
  simp only [go_sem, ↓reduceIte, reduceCtorEq, Nat.reduceEqDiff, Nat.reduceAdd, Nat.reduceMul, Nat.reduceSub, Nat.reduceLT, Nat.reduceLeDiff, Nat.reducePow, Nat.reduceBEq, Nat.reduceBNe, Int.reduceNeg, Int.reduceBEq, Int.reduceBNe, Int.reduceAdd, Int.reduceSub, Int.reduceMul, Int.reduceLT, Int.reduceLE, Int.reduceToNat, Int.reduceEq, Int.reduceNe, List.take_length, take_map_len, runesOf_eq, runeBytes_map, an_node_isText, nf_node_isText, fp_node_isText, ty9, ty23, ty24, ty25, ty27, ty58, diptychlaw4_Cell.pv_eq, api_Attr.pv_eq, api_Node.pv_eq, place_Spot.pv_eq, token_Token.pv_eq, pvL, List.map_nil]
  refine hK _ _ fun nx => ?_; clear hK K; try clear kk
  refine awp_ret ?_; (repeat (with_reducible first | refine then_n ?_ | refine then_r ?_ | refine then_e ?_ | refine block_n ?_ | refine block_r ?_ | refine exit_here ?_ | refine exit_on rfl ?_ | refine scope_n ?_ | refine scope_r ?_ | refine scope_e ?_ | refine cut_awp ?_))
  obtain hR := Option.some.inj hh
  subst hR
  refine ret_pure2 ?_ (by rfl)
  simp only [go_sem, ↓reduceIte, reduceCtorEq, Nat.reduceEqDiff, Nat.reduceAdd, Nat.reduceMul, Nat.reduceSub, Nat.reduceLT, Nat.reduceLeDiff, Nat.reducePow, Nat.reduceBEq, Nat.reduceBNe, Int.reduceNeg, Int.reduceBEq, Int.reduceBNe, Int.reduceAdd, Int.reduceSub, Int.reduceMul, Int.reduceLT, Int.reduceLE, Int.reduceToNat, Int.reduceEq, Int.reduceNe, List.take_length, take_map_len, runesOf_eq, runeBytes_map, an_node_isText, nf_node_isText, fp_node_isText, ty9, ty23, ty24, ty25, ty27, ty58, diptychlaw4_Cell.pv_eq, api_Attr.pv_eq, api_Node.pv_eq, place_Spot.pv_eq, token_Token.pv_eq, pvL, List.map_nil, rvsRes, rvRes, cellRes, tupOf, pur2, List.map_cons, List.map_append, List.head?_cons]
  (repeat (first | exact Wk.refl _ | exact WkL.refl _ | exact Wk.nil _ | refine Wk.agg _ _ ?_ | refine Wk.tup _ _ ?_ | refine WkL.cons _ _ _ _ ?_ ?_ | exact WkL.nil))
theorem unicode_utf8_RuneCountInString_ok (s_1 : Str) (R : Int) (hh : unicode_utf8_RuneCountInString s_1 = some R) : PC Tryd.prog 76 [.str s_1] (.int .i64 R) := by
  rw [unicode_utf8_RuneCountInString] at hh
  refine start_unicode_utf8_RuneCountInString rfl ?_
  refine awp_first fun K kk hK => ?_
  simp only [go_sem, ↓reduceIte, reduceCtorEq, Nat.reduceEqDiff, Nat.reduceAdd, Nat.reduceMul, Nat.reduceSub, Nat.reduceLT, Nat.reduceLeDiff, Nat.reducePow, Nat.reduceBEq, Nat.reduceBNe, Int.reduceNeg, Int.reduceBEq, Int.reduceBNe, Int.reduceAdd, Int.reduceSub, Int.reduceMul, Int.reduceLT, Int.reduceLE, Int.reduceToNat, Int.reduceEq, Int.reduceNe, List.take_length, take_map_len, runesOf_eq, runeBytes_map, an_unicode_utf8_RuneCountInString, nf_unicode_utf8_RuneCountInString, fp_unicode_utf8_RuneCountInString, ty3, ty9, diptychlaw4_Cell.pv_eq, api_Attr.pv_eq, api_Node.pv_eq, place_Spot.pv_eq, token_Token.pv_eq, pvL, List.map_nil]
  refine hK _ _ fun nx => ?_; clear hK K; try clear kk
  refine awp_seq ?_
  refine awp_first fun K kk hK => ?_
  simp only [go_sem, ↓reduceIte, reduceCtorEq, Nat.reduceEqDiff, Nat.reduceAdd, Nat.reduceMul, Nat.reduceSub, Nat.reduceLT, Nat.reduceLeDiff, Nat.reducePow, Nat.reduceBEq, Nat.reduceBNe, Int.reduceNeg, Int.reduceBEq, Int.reduceBNe, Int.reduceAdd, Int.reduceSub, Int.reduceMul, Int.reduceLT, Int.reduceLE, Int.reduceToNat, Int.reduceEq, Int.reduceNe, List.take_length, take_map_len, runesOf_eq, runeBytes_map, an_unicode_utf8_RuneCountInString, nf_unicode_utf8_RuneCountInString, fp_unicode_utf8_RuneCountInString, ty3, ty9, diptychlaw4_Cell.pv_eq, api_Attr.pv_eq, api_Node.pv_eq, place_Spot.pv_eq, token_Token.pv_eq, pvL, List.map_nil]
  refine hK _ _ fun nx => ?_; clear hK K; try clear kk
  obtain ⟨e0, f0, hh⟩ := bind_ex hh
  refine awp_fragE (CutTo (fun s => ∃ n_4, n_4 = e0 ∧ ∃ (v_5 : Nat) (nx : Nat) (g4 : Nat), s = ⟨[(2, .int .i64 n_4), (4, .box 4 g4 0), (6, .bool false)], [(4, g4, .iter s_1 v_5)], nx⟩))
    (fun i s => False)
    (fun s => False) ?_ ?_ ?_ ?_
  · refine awp_block ?_
    refine awp_loopJ fun I hI => ?_
    obtain ⟨k, f0⟩ := lim_some f0
    have key : ∀ (k : Nat) (n_2 : Int) (v_3 : Nat), unicode_utf8_RuneCountInString_l0 s_1 k n_2 v_3 = some e0 → ∀ (nx : Nat) (g4 : Nat), I ⟨[(2, .int .i64 n_2), (4, .box 4 g4 0)], [(4, g4, .iter s_1 v_3)], nx⟩ := by
      intro k
      induction k with
      | zero => intro n_2 v_3 hh; rw [unicode_utf8_RuneCountInString_l0] at hh; cases hh
      | succ k ih =>
        intro n_2 v_3 hh nx g4
        rw [unicode_utf8_RuneCountInString_l0] at hh
        refine hI _ ?_
        by_cases h2 : (decide (v_3 < s_1.length)) = true
        · rw [if_pos h2] at hh
          refine awp_first fun K kk hK => ?_
          simp only [go_sem, ↓reduceIte, reduceCtorEq, Nat.reduceEqDiff, Nat.reduceAdd, Nat.reduceMul, Nat.reduceSub, Nat.reduceLT, Nat.reduceLeDiff, Nat.reducePow, Nat.reduceBEq, Nat.reduceBNe, Int.reduceNeg, Int.reduceBEq, Int.reduceBNe, Int.reduceAdd, Int.reduceSub, Int.reduceMul, Int.reduceLT, Int.reduceLE, Int.reduceToNat, Int.reduceEq, Int.reduceNe, List.take_length, take_map_len, runesOf_eq, runeBytes_map, an_unicode_utf8_RuneCountInString, nf_unicode_utf8_RuneCountInString, fp_unicode_utf8_RuneCountInString, ty3, ty9, diptychlaw4_Cell.pv_eq, api_Attr.pv_eq, api_Node.pv_eq, place_Spot.pv_eq, token_Token.pv_eq, pvL, List.map_nil, h2, of_decide_eq_true h2]
          (repeat (refine And.intro (by first | assumption | (try simp only [List.length_append, List.length_cons, List.length_nil] at *; omega)) ?_))
          refine hK _ _ fun nx => ?_; clear hK K; try clear kk
          refine awp_seq ?_
          refine awp_true rfl ?_
          refine awp_skip ?_; (repeat (with_reducible first | refine then_n ?_ | refine then_r ?_ | refine then_e ?_ | refine block_n ?_ | refine block_r ?_ | refine exit_here ?_ | refine exit_on rfl ?_ | refine scope_n ?_ | refine scope_r ?_ | refine scope_e ?_ | refine cut_awp ?_))
          refine awp_block ?_
          refine awp_region fun K kk hK => ?_
          simp only [go_sem, ↓reduceIte, reduceCtorEq, Nat.reduceEqDiff, Nat.reduceAdd, Nat.reduceMul, Nat.reduceSub, Nat.reduceLT, Nat.reduceLeDiff, Nat.reducePow, Nat.reduceBEq, Nat.reduceBNe, Int.reduceNeg, Int.reduceBEq, Int.reduceBNe, Int.reduceAdd, Int.reduceSub, Int.reduceMul, Int.reduceLT, Int.reduceLE, Int.reduceToNat, Int.reduceEq, Int.reduceNe, List.take_length, take_map_len, runesOf_eq, runeBytes_map, an_unicode_utf8_RuneCountInString, nf_unicode_utf8_RuneCountInString, fp_unicode_utf8_RuneCountInString, ty3, ty9, diptychlaw4_Cell.pv_eq, api_Attr.pv_eq, api_Node.pv_eq, place_Spot.pv_eq, token_Token.pv_eq, pvL, List.map_nil]
          refine hK _ _ fun nx => ?_; clear hK K; try clear kk
          (repeat (with_reducible first | refine then_n ?_ | refine then_r ?_ | refine then_e ?_ | refine block_n ?_ | refine block_r ?_ | refine exit_here ?_ | refine exit_on rfl ?_ | refine scope_n ?_ | refine scope_r ?_ | refine scope_e ?_ | refine cut_awp ?_))
          have ih' := ih _ _ hh nx
          refine cut_id ?_
          first | exact ih' _ | (simp only [diptychlaw4_Cell.pv_eq, api_Attr.pv_eq, api_Node.pv_eq, place_Spot.pv_eq, token_Token.pv_eq, pvL, List.map_cons, List.map_nil, List.map_append, rune1] at ih' ⊢; exact ih' _)
        · rw [if_neg h2] at hh
          replace h2 := Bool.eq_false_iff.mpr h2
          refine awp_first fun K kk hK => ?_
          simp only [go_sem, ↓reduceIte, reduceCtorEq, Nat.reduceEqDiff, Nat.reduceAdd, Nat.reduceMul, Nat.reduceSub, Nat.reduceLT, Nat.reduceLeDiff, Nat.reducePow, Nat.reduceBEq, Nat.reduceBNe, Int.reduceNeg, Int.reduceBEq, Int.reduceBNe, Int.reduceAdd, Int.reduceSub, Int.reduceMul, Int.reduceLT, Int.reduceLE, Int.reduceToNat, Int.reduceEq, Int.reduceNe, List.take_length, take_map_len, runesOf_eq, runeBytes_map, an_unicode_utf8_RuneCountInString, nf_unicode_utf8_RuneCountInString, fp_unicode_utf8_RuneCountInString, ty3, ty9, diptychlaw4_Cell.pv_eq, api_Attr.pv_eq, api_Node.pv_eq, place_Spot.pv_eq, token_Token.pv_eq, pvL, List.map_nil, h2, of_decide_eq_false h2]
          (repeat (refine And.intro (by first | assumption | (try simp only [List.length_append, List.length_cons, List.length_nil] at *; omega)) ?_))
          refine hK _ _ fun nx => ?_; clear hK K; try clear kk
          refine awp_seq ?_
          refine awp_false rfl ?_
          refine awp_exit ?_; (repeat (with_reducible first | refine then_n ?_ | refine then_r ?_ | refine then_e ?_ | refine block_n ?_ | refine block_r ?_ | refine exit_here ?_ | refine exit_on rfl ?_ | refine scope_n ?_ | refine scope_r ?_ | refine scope_e ?_ | refine cut_awp ?_))
          refine fragN ?_
          refine cut_id ?_
          refine ⟨_, (Option.some.inj hh), ?_⟩
          first | exact ⟨_, _, _, rfl⟩ | (simp only [diptychlaw4_Cell.pv_eq, api_Attr.pv_eq, api_Node.pv_eq, place_Spot.pv_eq, token_Token.pv_eq, pvL, List.map_cons, List.map_nil, List.map_append, rune1]; exact ⟨_, _, _, rfl⟩)
    exact key _ _ _ f0 _ _
  · rintro s ⟨t, hless, n_4, rfl, v_5, nx, g4, rfl⟩
    try dsimp only at hh
    (repeat (with_reducible first | refine then_n ?_ | refine then_r ?_ | refine then_e ?_ | refine block_n ?_ | refine block_r ?_ | refine exit_here ?_ | refine exit_on rfl ?_ | refine scope_n ?_ | refine scope_r ?_ | refine scope_e ?_))
    first | (refine cut_less hless ?_; try refine cut_awp ?_) | refine frag_less hless ?_
    refine awp_first fun K kk hK => ?_
    simp only [go_sem, ↓reduceIte, reduceCtorEq, Nat.reduceEqDiff, Nat.reduceAdd, Nat.reduceMul, Nat.reduceSub, Nat.reduceLT, Nat.reduceLeDiff, Nat.reducePow, Nat.reduceBEq, Nat.reduceBNe, Int.reduceNeg, Int.reduceBEq, Int.reduceBNe, Int.reduceAdd, Int.reduceSub, Int.reduceMul, Int.reduceLT, Int.reduceLE, Int.reduceToNat, Int.reduceEq, Int.reduceNe, List.take_length, take_map_len, runesOf_eq, runeBytes_map, an_unicode_utf8_RuneCountInString, nf_unicode_utf8_RuneCountInString, fp_unicode_utf8_RuneCountInString, ty3, ty9, diptychlaw4_Cell.pv_eq, api_Attr.pv_eq, api_Node.pv_eq, place_Spot.pv_eq, token_Token.pv_eq, pvL, List.map_nil]
    refine hK _ _ fun nx => ?_; clear hK K; try clear kk
    refine awp_ret ?_; (repeat (with_reducible first | refine then_n ?_ | refine then_r ?_ | refine then_e ?_ | refine block_n ?_ | refine block_r ?_ | refine exit_here ?_ | refine exit_on rfl ?_ | refine scope_n ?_ | refine scope_r ?_ | refine scope_e ?_ | refine cut_awp ?_))
    obtain hR := Option.some.inj hh
    subst hR
    refine ret_pure2 ?_ (by rfl)
    simp only [go_sem, ↓reduceIte, reduceCtorEq, Nat.reduceEqDiff, Nat.reduceAdd, Nat.reduceMul, Nat.reduceSub, Nat.reduceLT, Nat.reduceLeDiff, Nat.reducePow, Nat.reduceBEq, Nat.reduceBNe, Int.reduceNeg, Int.reduceBEq, Int.reduceBNe, Int.reduceAdd, Int.reduceSub, Int.reduceMul, Int.reduceLT, Int.reduceLE, Int.reduceToNat, Int.reduceEq, Int.reduceNe, List.take_length, take_map_len, runesOf_eq, runeBytes_map, an_unicode_utf8_RuneCountInString, nf_unicode_utf8_RuneCountInString, fp_unicode_utf8_RuneCountInString, ty3, ty9, diptychlaw4_Cell.pv_eq, api_Attr.pv_eq, api_Node.pv_eq, place_Spot.pv_eq, token_Token.pv_eq, pvL, List.map_nil, rvsRes, rvRes, cellRes, tupOf, pur2, List.map_cons, List.map_append, List.head?_cons]
    (repeat (first | exact Wk.refl _ | exact WkL.refl _ | exact Wk.nil _ | refine Wk.agg _ _ ?_ | refine Wk.tup _ _ ?_ | refine WkL.cons _ _ _ _ ?_ ?_ | exact WkL.nil))
  · intro i s h; exact h.elim
  · intro s h; exact h.elim

end Go.Proofs.YtlgjbmgmoaphjaaDoor
