/- What the functions answer, the program answers (1). -/
import Derived.Test.YtlgjbmgmoaphjaaDoorAgC
import Derived.Test.YtlgjbmgmoaphjaaDoorAgF
import Derived.Test.YtlgjbmgmoaphjaaDoorAgK0
namespace Go.Proofs.YtlgjbmgmoaphjaaDoor
set_option linter.unusedSimpArgs false
set_option linter.unusedVariables false
open Go
set_option maxRecDepth 100000

theorem token_Of_grp : ∀ kr : Nat, (∀ (l_1 : (List api_Node)) (R : (List token_Token)), token_Of_k kr l_1 = some R → PC Tryd.prog 18 [.list 5 (l_1.map api_Node.pv)] (.own 3 (R.map token_Token.pv))) := by
  intro kr
  induction kr with
  | zero => exact (by intro l_1 R hh; rw [token_Of_k] at hh; cases hh)
  | succ kr ih =>
    have ih_token_Of := ih
    clear ih
    intro l_1 R hh
    rw [token_Of_k] at hh
    refine start_token_Of rfl ?_
    refine awp_first fun K kk hK => ?_
    simp only [go_sem, ↓reduceIte, reduceCtorEq, Nat.reduceEqDiff, Nat.reduceAdd, Nat.reduceMul, Nat.reduceSub, Nat.reduceLT, Nat.reduceLeDiff, Nat.reducePow, Nat.reduceBEq, Nat.reduceBNe, Int.reduceNeg, Int.reduceBEq, Int.reduceBNe, Int.reduceAdd, Int.reduceSub, Int.reduceMul, Int.reduceLT, Int.reduceLE, Int.reduceToNat, Int.reduceEq, Int.reduceNe, List.take_length, take_map_len, runesOf_eq, runeBytes_map, an_token_Of, nf_token_Of, fp_token_Of, ty3, ty5, ty9, ty21, ty23, ty24, ty25, ty27, ty31, ty40, ty58, diptychlaw3_Cell.pv_eq, api_Attr.pv_eq, api_Node.pv_eq, token_Token.pv_eq, diptychref3_Token.pv_eq, pvL, List.map_nil]
    refine hK _ _ fun nx => ?_; clear hK K; try clear kk
    refine awp_first fun K kk hK => ?_
    simp only [go_sem, ↓reduceIte, reduceCtorEq, Nat.reduceEqDiff, Nat.reduceAdd, Nat.reduceMul, Nat.reduceSub, Nat.reduceLT, Nat.reduceLeDiff, Nat.reducePow, Nat.reduceBEq, Nat.reduceBNe, Int.reduceNeg, Int.reduceBEq, Int.reduceBNe, Int.reduceAdd, Int.reduceSub, Int.reduceMul, Int.reduceLT, Int.reduceLE, Int.reduceToNat, Int.reduceEq, Int.reduceNe, List.take_length, take_map_len, runesOf_eq, runeBytes_map, an_token_Of, nf_token_Of, fp_token_Of, ty3, ty5, ty9, ty21, ty23, ty24, ty25, ty27, ty31, ty40, ty58, diptychlaw3_Cell.pv_eq, api_Attr.pv_eq, api_Node.pv_eq, token_Token.pv_eq, diptychref3_Token.pv_eq, pvL, List.map_nil]
    refine hK _ _ fun nx => ?_; clear hK K; try clear kk
    refine awp_seq ?_
    refine awp_first fun K kk hK => ?_
    simp only [go_sem, ↓reduceIte, reduceCtorEq, Nat.reduceEqDiff, Nat.reduceAdd, Nat.reduceMul, Nat.reduceSub, Nat.reduceLT, Nat.reduceLeDiff, Nat.reducePow, Nat.reduceBEq, Nat.reduceBNe, Int.reduceNeg, Int.reduceBEq, Int.reduceBNe, Int.reduceAdd, Int.reduceSub, Int.reduceMul, Int.reduceLT, Int.reduceLE, Int.reduceToNat, Int.reduceEq, Int.reduceNe, List.take_length, take_map_len, runesOf_eq, runeBytes_map, an_token_Of, nf_token_Of, fp_token_Of, ty3, ty5, ty9, ty21, ty23, ty24, ty25, ty27, ty31, ty40, ty58, diptychlaw3_Cell.pv_eq, api_Attr.pv_eq, api_Node.pv_eq, token_Token.pv_eq, diptychref3_Token.pv_eq, pvL, List.map_nil]
    refine hK _ _ fun nx => ?_; clear hK K; try clear kk
    obtain ⟨e0, f0, hh⟩ := bind_ex hh
    obtain ⟨hlen0, f0⟩ := chk_some f0
    refine awp_fragE (CutTo (fun s => ∃ out_48, out_48 = e0 ∧ ∃ (v_46 : Int) (v_47 : Bool) (nx : Nat) (g3 : Nat), s = ⟨[(3, .row 3 g3 out_48.length), (8, .list 5 (l_1.map api_Node.pv)), (9, .int .i64 (l_1.length : Int)), (10, .int .i64 v_46), (11, .bool v_47)], [(3, g3, .row false 3 (out_48.map token_Token.pv))], nx⟩))
      (fun i s => False)
      (fun s => False) ?_ ?_ ?_ ?_
    · refine awp_block ?_
      refine awp_loopJ fun I hI => ?_
      have key : ∀ (suf pre : List api_Node) (v_16 : Int) (out_17 : (List token_Token)), l_1 = pre ++ suf → v_16 = (pre.length : Int) → token_Of_l0 (token_Of_k kr) suf v_16 out_17 = some e0 → ∀ (nx : Nat) (g3 : Nat), I ⟨[(3, .row 3 g3 out_17.length), (8, .list 5 (l_1.map api_Node.pv)), (9, .int .i64 (l_1.length : Int)), (10, .int .i64 v_16)], [(3, g3, .row false 3 (out_17.map token_Token.pv))], nx⟩ := by
        intro suf
        induction suf with
        | nil =>
          intro pre v_16 out_17 hsplit hidx hh nx g3
          rw [token_Of_l0] at hh
          refine hI _ ?_
          have h29 := walk_nil hsplit hidx
          refine awp_first fun K kk hK => ?_
          simp only [go_sem, ↓reduceIte, reduceCtorEq, Nat.reduceEqDiff, Nat.reduceAdd, Nat.reduceMul, Nat.reduceSub, Nat.reduceLT, Nat.reduceLeDiff, Nat.reducePow, Nat.reduceBEq, Nat.reduceBNe, Int.reduceNeg, Int.reduceBEq, Int.reduceBNe, Int.reduceAdd, Int.reduceSub, Int.reduceMul, Int.reduceLT, Int.reduceLE, Int.reduceToNat, Int.reduceEq, Int.reduceNe, List.take_length, take_map_len, runesOf_eq, runeBytes_map, an_token_Of, nf_token_Of, fp_token_Of, ty3, ty5, ty9, ty21, ty23, ty24, ty25, ty27, ty31, ty40, ty58, diptychlaw3_Cell.pv_eq, api_Attr.pv_eq, api_Node.pv_eq, token_Token.pv_eq, diptychref3_Token.pv_eq, pvL, List.map_nil]
          refine hK _ _ fun nx => ?_; clear hK K; try clear kk
          refine awp_seq ?_
          refine awp_false (by first | exact congrArg PV.bool h29 | rfl) ?_
          refine awp_exit ?_; (repeat (with_reducible first | refine then_n ?_ | refine then_r ?_ | refine then_e ?_ | refine block_n ?_ | refine block_r ?_ | refine exit_here ?_ | refine exit_on rfl ?_ | refine scope_n ?_ | refine scope_r ?_ | refine scope_e ?_ | refine cut_awp ?_))
          refine fragN ?_
          refine cut_id ?_
          refine ⟨_, (Option.some.inj hh), ?_⟩
          first | exact ⟨_, _, _, _, rfl⟩ | (simp only [diptychlaw3_Cell.pv_eq, api_Attr.pv_eq, api_Node.pv_eq, token_Token.pv_eq, diptychref3_Token.pv_eq, pvL, List.map_cons, List.map_nil, List.map_append, rune1]; exact ⟨_, _, _, _, rfl⟩)
        | cons y_32 suf ih =>
          intro pre v_16 out_17 hsplit hidx hh nx g3
          rw [token_Of_l0] at hh
          refine hI _ ?_
          obtain ⟨hl0a, hl0b, hl0d, hl0w, h29⟩ := walk_cons (f := api_Node.pv) hsplit hidx hlen0
          refine awp_first fun K kk hK => ?_
          simp only [go_sem, ↓reduceIte, reduceCtorEq, Nat.reduceEqDiff, Nat.reduceAdd, Nat.reduceMul, Nat.reduceSub, Nat.reduceLT, Nat.reduceLeDiff, Nat.reducePow, Nat.reduceBEq, Nat.reduceBNe, Int.reduceNeg, Int.reduceBEq, Int.reduceBNe, Int.reduceAdd, Int.reduceSub, Int.reduceMul, Int.reduceLT, Int.reduceLE, Int.reduceToNat, Int.reduceEq, Int.reduceNe, List.take_length, take_map_len, runesOf_eq, runeBytes_map, an_token_Of, nf_token_Of, fp_token_Of, ty3, ty5, ty9, ty21, ty23, ty24, ty25, ty27, ty31, ty40, ty58, diptychlaw3_Cell.pv_eq, api_Attr.pv_eq, api_Node.pv_eq, token_Token.pv_eq, diptychref3_Token.pv_eq, pvL, List.map_nil]
          refine hK _ _ fun nx => ?_; clear hK K; try clear kk
          refine awp_seq ?_
          refine awp_true (by first | exact congrArg PV.bool h29 | rfl) ?_
          refine awp_skip ?_; (repeat (with_reducible first | refine then_n ?_ | refine then_r ?_ | refine then_e ?_ | refine block_n ?_ | refine block_r ?_ | refine exit_here ?_ | refine exit_on rfl ?_ | refine scope_n ?_ | refine scope_r ?_ | refine scope_e ?_ | refine cut_awp ?_))
          refine awp_seq ?_
          refine awp_block ?_
          refine awp_first fun K kk hK => ?_
          simp only [go_sem, ↓reduceIte, reduceCtorEq, Nat.reduceEqDiff, Nat.reduceAdd, Nat.reduceMul, Nat.reduceSub, Nat.reduceLT, Nat.reduceLeDiff, Nat.reducePow, Nat.reduceBEq, Nat.reduceBNe, Int.reduceNeg, Int.reduceBEq, Int.reduceBNe, Int.reduceAdd, Int.reduceSub, Int.reduceMul, Int.reduceLT, Int.reduceLE, Int.reduceToNat, Int.reduceEq, Int.reduceNe, List.take_length, take_map_len, runesOf_eq, runeBytes_map, an_token_Of, nf_token_Of, fp_token_Of, ty3, ty5, ty9, ty21, ty23, ty24, ty25, ty27, ty31, ty40, ty58, diptychlaw3_Cell.pv_eq, api_Attr.pv_eq, api_Node.pv_eq, token_Token.pv_eq, diptychref3_Token.pv_eq, pvL, List.map_nil, hl0a, hl0b, hl0d, hl0w]
          refine hK _ _ fun nx => ?_; clear hK K; try clear kk
          refine awp_seq ?_
          refine awp_first fun K kk hK => ?_
          simp only [go_sem, ↓reduceIte, reduceCtorEq, Nat.reduceEqDiff, Nat.reduceAdd, Nat.reduceMul, Nat.reduceSub, Nat.reduceLT, Nat.reduceLeDiff, Nat.reducePow, Nat.reduceBEq, Nat.reduceBNe, Int.reduceNeg, Int.reduceBEq, Int.reduceBNe, Int.reduceAdd, Int.reduceSub, Int.reduceMul, Int.reduceLT, Int.reduceLE, Int.reduceToNat, Int.reduceEq, Int.reduceNe, List.take_length, take_map_len, runesOf_eq, runeBytes_map, an_token_Of, nf_token_Of, fp_token_Of, ty3, ty5, ty9, ty21, ty23, ty24, ty25, ty27, ty31, ty40, ty58, diptychlaw3_Cell.pv_eq, api_Attr.pv_eq, api_Node.pv_eq, token_Token.pv_eq, diptychref3_Token.pv_eq, pvL, List.map_nil, hl0a, hl0b, hl0d, hl0w]
          refine hK _ _ fun nx => ?_; clear hK K; try clear kk
          by_cases h30 : (y_32.Kind == ([116, 101, 120, 116] : Str)) = true
          · rw [if_pos h30] at hh
            refine awp_true (by first | exact congrArg PV.bool h30 | rfl) ?_
            refine awp_seq ?_
            refine awp_first fun K kk hK => ?_
            simp only [go_sem, ↓reduceIte, reduceCtorEq, Nat.reduceEqDiff, Nat.reduceAdd, Nat.reduceMul, Nat.reduceSub, Nat.reduceLT, Nat.reduceLeDiff, Nat.reducePow, Nat.reduceBEq, Nat.reduceBNe, Int.reduceNeg, Int.reduceBEq, Int.reduceBNe, Int.reduceAdd, Int.reduceSub, Int.reduceMul, Int.reduceLT, Int.reduceLE, Int.reduceToNat, Int.reduceEq, Int.reduceNe, List.take_length, take_map_len, runesOf_eq, runeBytes_map, an_token_Of, nf_token_Of, fp_token_Of, ty3, ty5, ty9, ty21, ty23, ty24, ty25, ty27, ty31, ty40, ty58, diptychlaw3_Cell.pv_eq, api_Attr.pv_eq, api_Node.pv_eq, token_Token.pv_eq, diptychref3_Token.pv_eq, pvL, List.map_nil, hl0a, hl0b, hl0d, hl0w]
            refine hK _ _ fun nx => ?_; clear hK K; try clear kk
            obtain ⟨e7, f7, hh⟩ := bind_ex hh
            refine awp_fragE (CutTo (fun s => ∃ out_39, out_39 = e7 ∧ ∃ (v_40 : Nat) (nx : Nat) (g3 : Nat) (g5 : Nat) (g19 : Nat), s = ⟨[(3, .row 3 g3 out_39.length), (5, .box 5 g5 0), (8, .list 5 (l_1.map api_Node.pv)), (9, .int .i64 (l_1.length : Int)), (10, .int .i64 v_16), (19, .box 19 g19 0), (20, .tup [.bool false]), (21, .bool false)], [(3, g3, .row false 3 (out_39.map token_Token.pv)), (5, g5, .var [.str y_32.Kind, .str y_32.Text, .list 1 (y_32.Marks.map PV.str), .list 2 (y_32.Attrs.map api_Attr.pv), .list 5 (y_32.Kids.map api_Node.pv)]), (19, g19, .iter y_32.Text v_40)], nx⟩))
              (fun i s => False)
              (fun s => False) ?_ ?_ ?_ ?_
            · refine awp_block ?_
              refine awp_loopJ fun I hI => ?_
              obtain ⟨k, f7⟩ := lim_some f7
              have key : ∀ (k : Nat) (out_35 : (List token_Token)) (v_36 : Nat), token_Of_l7 y_32 k out_35 v_36 = some e7 → ∀ (nx : Nat) (g3 : Nat) (g5 : Nat) (g19 : Nat), I ⟨[(3, .row 3 g3 out_35.length), (5, .box 5 g5 0), (8, .list 5 (l_1.map api_Node.pv)), (9, .int .i64 (l_1.length : Int)), (10, .int .i64 v_16), (19, .box 19 g19 0)], [(3, g3, .row false 3 (out_35.map token_Token.pv)), (5, g5, .var [.str y_32.Kind, .str y_32.Text, .list 1 (y_32.Marks.map PV.str), .list 2 (y_32.Attrs.map api_Attr.pv), .list 5 (y_32.Kids.map api_Node.pv)]), (19, g19, .iter y_32.Text v_36)], nx⟩ := by
                intro k
                induction k with
                | zero => intro out_35 v_36 hh; rw [token_Of_l7] at hh; cases hh
                | succ k ih =>
                  intro out_35 v_36 hh nx g3 g5 g19
                  rw [token_Of_l7] at hh
                  refine hI _ ?_
                  refine awp_assoc ?_
                  refine awp_seq ?_
                  obtain ⟨e9, f9, hh⟩ := bind_ex hh
                  refine awp_frag (fun s => .inr () = e9 ∧ ∃ (nx : Nat) (g3 : Nat) (g5 : Nat) (g19 : Nat), s = ⟨[(3, .row 3 g3 out_35.length), (5, .box 5 g5 0), (8, .list 5 (l_1.map api_Node.pv)), (9, .int .i64 (l_1.length : Int)), (10, .int .i64 v_16), (19, .box 19 g19 0), (20, .tup [.bool true, .int .i64 (v_36 : Int), .int .i32 (runeAt y_32.Text v_36)]), (21, .bool true)], [(3, g3, .row false 3 (out_35.map token_Token.pv)), (5, g5, .var [.str y_32.Kind, .str y_32.Text, .list 1 (y_32.Marks.map PV.str), .list 2 (y_32.Attrs.map api_Attr.pv), .list 5 (y_32.Kids.map api_Node.pv)]), (19, g19, .iter y_32.Text (v_36 + runeW y_32.Text v_36))], nx⟩)
                    (fun i s => (i = 2 ∧ .inl () = e9 ∧ ∃ (nx : Nat) (g3 : Nat) (g5 : Nat) (g19 : Nat), s = ⟨[(3, .row 3 g3 out_35.length), (5, .box 5 g5 0), (8, .list 5 (l_1.map api_Node.pv)), (9, .int .i64 (l_1.length : Int)), (10, .int .i64 v_16), (19, .box 19 g19 0), (20, .tup [.bool false]), (21, .bool false)], [(3, g3, .row false 3 (out_35.map token_Token.pv)), (5, g5, .var [.str y_32.Kind, .str y_32.Text, .list 1 (y_32.Marks.map PV.str), .list 2 (y_32.Attrs.map api_Attr.pv), .list 5 (y_32.Kids.map api_Node.pv)]), (19, g19, .iter y_32.Text v_36)], nx⟩))
                    (fun s => False) ?_ ?_ ?_ ?_
                  · have hh := f9
                    by_cases h34 : (decide (v_36 < y_32.Text.length)) = true
                    · rw [if_pos h34] at hh
                      refine awp_first fun K kk hK => ?_
                      simp only [go_sem, ↓reduceIte, reduceCtorEq, Nat.reduceEqDiff, Nat.reduceAdd, Nat.reduceMul, Nat.reduceSub, Nat.reduceLT, Nat.reduceLeDiff, Nat.reducePow, Nat.reduceBEq, Nat.reduceBNe, Int.reduceNeg, Int.reduceBEq, Int.reduceBNe, Int.reduceAdd, Int.reduceSub, Int.reduceMul, Int.reduceLT, Int.reduceLE, Int.reduceToNat, Int.reduceEq, Int.reduceNe, List.take_length, take_map_len, runesOf_eq, runeBytes_map, an_token_Of, nf_token_Of, fp_token_Of, ty3, ty5, ty9, ty21, ty23, ty24, ty25, ty27, ty31, ty40, ty58, diptychlaw3_Cell.pv_eq, api_Attr.pv_eq, api_Node.pv_eq, token_Token.pv_eq, diptychref3_Token.pv_eq, pvL, List.map_nil, h34, of_decide_eq_true h34, hl0a, hl0b, hl0d, hl0w]
                      (repeat (refine And.intro ?_ ?_; focus (first | assumption | (try simp only [List.length_append, List.length_cons, List.length_nil] at *; omega))))
                      refine hK _ _ fun nx => ?_; clear hK K; try clear kk
                      refine awp_true rfl ?_
                      refine awp_skip ?_; (repeat (with_reducible first | refine then_n ?_ | refine then_r ?_ | refine then_e ?_ | refine block_n ?_ | refine block_r ?_ | refine exit_here ?_ | refine exit_on rfl ?_ | refine scope_n ?_ | refine scope_r ?_ | refine scope_e ?_ | refine cut_awp ?_))
                      refine fragN ?_
                      refine cut_id ?_
                      refine ⟨(Option.some.inj hh), ?_⟩
                      first | exact ⟨_, _, _, _, rfl⟩ | (simp only [diptychlaw3_Cell.pv_eq, api_Attr.pv_eq, api_Node.pv_eq, token_Token.pv_eq, diptychref3_Token.pv_eq, pvL, List.map_cons, List.map_nil, List.map_append, rune1]; exact ⟨_, _, _, _, rfl⟩)
                    · rw [if_neg h34] at hh
                      replace h34 := Bool.eq_false_iff.mpr h34
                      refine awp_first fun K kk hK => ?_
                      simp only [go_sem, ↓reduceIte, reduceCtorEq, Nat.reduceEqDiff, Nat.reduceAdd, Nat.reduceMul, Nat.reduceSub, Nat.reduceLT, Nat.reduceLeDiff, Nat.reducePow, Nat.reduceBEq, Nat.reduceBNe, Int.reduceNeg, Int.reduceBEq, Int.reduceBNe, Int.reduceAdd, Int.reduceSub, Int.reduceMul, Int.reduceLT, Int.reduceLE, Int.reduceToNat, Int.reduceEq, Int.reduceNe, List.take_length, take_map_len, runesOf_eq, runeBytes_map, an_token_Of, nf_token_Of, fp_token_Of, ty3, ty5, ty9, ty21, ty23, ty24, ty25, ty27, ty31, ty40, ty58, diptychlaw3_Cell.pv_eq, api_Attr.pv_eq, api_Node.pv_eq, token_Token.pv_eq, diptychref3_Token.pv_eq, pvL, List.map_nil, h34, of_decide_eq_false h34, hl0a, hl0b, hl0d, hl0w]
                      (repeat (refine And.intro ?_ ?_; focus (first | assumption | (try simp only [List.length_append, List.length_cons, List.length_nil] at *; omega))))
                      refine hK _ _ fun nx => ?_; clear hK K; try clear kk
                      refine awp_false rfl ?_
                      refine awp_exit ?_; (repeat (with_reducible first | refine then_n ?_ | refine then_r ?_ | refine then_e ?_ | refine block_n ?_ | refine block_r ?_ | refine exit_here ?_ | refine exit_on rfl ?_ | refine scope_n ?_ | refine scope_r ?_ | refine scope_e ?_ | refine cut_awp ?_))
                      refine fragE ⟨rfl, (Option.some.inj hh), ?_⟩
                      first | exact ⟨_, _, _, _, rfl⟩ | (simp only [diptychlaw3_Cell.pv_eq, api_Attr.pv_eq, api_Node.pv_eq, token_Token.pv_eq, diptychref3_Token.pv_eq, pvL, List.map_cons, List.map_nil, List.map_append, rune1]; exact ⟨_, _, _, _, rfl⟩)
                  · rintro s ⟨rfl, nx, g3, g5, g19, rfl⟩
                    try dsimp only at hh
                    refine awp_block ?_
                    refine awp_first fun K kk hK => ?_
                    simp only [go_sem, ↓reduceIte, reduceCtorEq, Nat.reduceEqDiff, Nat.reduceAdd, Nat.reduceMul, Nat.reduceSub, Nat.reduceLT, Nat.reduceLeDiff, Nat.reducePow, Nat.reduceBEq, Nat.reduceBNe, Int.reduceNeg, Int.reduceBEq, Int.reduceBNe, Int.reduceAdd, Int.reduceSub, Int.reduceMul, Int.reduceLT, Int.reduceLE, Int.reduceToNat, Int.reduceEq, Int.reduceNe, List.take_length, take_map_len, runesOf_eq, runeBytes_map, an_token_Of, nf_token_Of, fp_token_Of, ty3, ty5, ty9, ty21, ty23, ty24, ty25, ty27, ty31, ty40, ty58, diptychlaw3_Cell.pv_eq, api_Attr.pv_eq, api_Node.pv_eq, token_Token.pv_eq, diptychref3_Token.pv_eq, pvL, List.map_nil, hl0a, hl0b, hl0d, hl0w]
                    refine hK _ _ fun nx => ?_; clear hK K; try clear kk
                    obtain ⟨head_37, h35, hh⟩ := bind_ex hh
                    obtain ⟨l_38, h36, hh⟩ := bind_ex hh
                    obtain ⟨h36a, h36c⟩ := app_some h36
                    have h36d := app_map (f := token_Token.pv) h36c
                    have h36e := app_len h36c
                    try simp only [List.length_cons, List.length_nil, Nat.zero_add, Nat.reduceAdd] at h36a h36e
                    try simp only [h36e] at h36a
                    try simp only [List.map_cons, List.map_nil, List.nil_append, List.append_nil, List.cons_append, List.singleton_append, rune1, diptychlaw3_Cell.pv_eq, api_Attr.pv_eq, api_Node.pv_eq, token_Token.pv_eq, diptychref3_Token.pv_eq, pvL] at h36d
                    refine awp_region fun K kk hK => ?_
                    simp only [go_sem, ↓reduceIte, reduceCtorEq, Nat.reduceEqDiff, Nat.reduceAdd, Nat.reduceMul, Nat.reduceSub, Nat.reduceLT, Nat.reduceLeDiff, Nat.reducePow, Nat.reduceBEq, Nat.reduceBNe, Int.reduceNeg, Int.reduceBEq, Int.reduceBNe, Int.reduceAdd, Int.reduceSub, Int.reduceMul, Int.reduceLT, Int.reduceLE, Int.reduceToNat, Int.reduceEq, Int.reduceNe, List.take_length, take_map_len, runesOf_eq, runeBytes_map, an_token_Of, nf_token_Of, fp_token_Of, ty3, ty5, ty9, ty21, ty23, ty24, ty25, ty27, ty31, ty40, ty58, diptychlaw3_Cell.pv_eq, api_Attr.pv_eq, api_Node.pv_eq, token_Token.pv_eq, diptychref3_Token.pv_eq, pvL, List.map_nil, h36a, h36d, h36e, hl0a, hl0b, hl0d, hl0w]
                    (repeat (refine And.intro ?_ ?_; focus (first | assumption | (try simp only [List.length_append, List.length_cons, List.length_nil] at *; omega))))
                    refine step_call2 (codec_Head_ok _ _ h35) (by try simp only [go_sem, ↓reduceIte, reduceCtorEq, Nat.reduceEqDiff, Nat.reduceAdd, Nat.reduceMul, Nat.reduceSub, Nat.reduceLT, Nat.reduceLeDiff, Nat.reducePow, Nat.reduceBEq, Nat.reduceBNe, Int.reduceNeg, Int.reduceBEq, Int.reduceBNe, Int.reduceAdd, Int.reduceSub, Int.reduceMul, Int.reduceLT, Int.reduceLE, Int.reduceToNat, Int.reduceEq, Int.reduceNe, List.take_length, take_map_len, runesOf_eq, runeBytes_map, an_token_Of, nf_token_Of, fp_token_Of, ty3, ty5, ty9, ty21, ty23, ty24, ty25, ty27, ty31, ty40, ty58, diptychlaw3_Cell.pv_eq, api_Attr.pv_eq, api_Node.pv_eq, token_Token.pv_eq, diptychref3_Token.pv_eq, pvL, List.map_nil, h36a, h36d, h36e, hl0a, hl0b, hl0d, hl0w]; (repeat (first | exact WkL.refl _ | exact Wk.refl _ | exact Wk.nil _ | refine WkL.cons _ _ _ _ ?_ ?_ | exact WkL.nil | refine Wk.agg _ _ ?_ | refine Wk.tup _ _ ?_))) (by rfl) (by rfl) ?_
                    simp only [go_sem, ↓reduceIte, reduceCtorEq, Nat.reduceEqDiff, Nat.reduceAdd, Nat.reduceMul, Nat.reduceSub, Nat.reduceLT, Nat.reduceLeDiff, Nat.reducePow, Nat.reduceBEq, Nat.reduceBNe, Int.reduceNeg, Int.reduceBEq, Int.reduceBNe, Int.reduceAdd, Int.reduceSub, Int.reduceMul, Int.reduceLT, Int.reduceLE, Int.reduceToNat, Int.reduceEq, Int.reduceNe, List.take_length, take_map_len, runesOf_eq, runeBytes_map, an_token_Of, nf_token_Of, fp_token_Of, ty3, ty5, ty9, ty21, ty23, ty24, ty25, ty27, ty31, ty40, ty58, diptychlaw3_Cell.pv_eq, api_Attr.pv_eq, api_Node.pv_eq, token_Token.pv_eq, diptychref3_Token.pv_eq, pvL, List.map_nil, h36a, h36d, h36e, hl0a, hl0b, hl0d, hl0w]
                    (repeat (refine And.intro ?_ ?_; focus (first | assumption | (try simp only [List.length_append, List.length_cons, List.length_nil] at *; omega))))
                    refine hK _ _ fun nx => ?_; clear hK K; try clear kk
                    (repeat (with_reducible first | refine then_n ?_ | refine then_r ?_ | refine then_e ?_ | refine block_n ?_ | refine block_r ?_ | refine exit_here ?_ | refine exit_on rfl ?_ | refine scope_n ?_ | refine scope_r ?_ | refine scope_e ?_ | refine cut_awp ?_))
                    have ih' := ih _ _ hh nx
                    refine cut_id ?_
                    first | exact ih' _ _ _ | (simp only [diptychlaw3_Cell.pv_eq, api_Attr.pv_eq, api_Node.pv_eq, token_Token.pv_eq, diptychref3_Token.pv_eq, pvL, List.map_cons, List.map_nil, List.map_append, rune1, h36e] at ih' ⊢; exact ih' _ _ _)
                  · intro i s h
                    obtain ⟨rfl, rfl, nx, g3, g5, g19, rfl⟩ := h
                    try dsimp only at hh
                    (repeat (with_reducible first | refine then_n ?_ | refine then_r ?_ | refine then_e ?_ | refine block_n ?_ | refine block_r ?_ | refine exit_here ?_ | refine exit_on rfl ?_ | refine scope_n ?_ | refine scope_r ?_ | refine scope_e ?_ | refine cut_awp ?_))
                    refine fragN ?_
                    refine cut_id ?_
                    refine ⟨_, (Option.some.inj hh), ?_⟩
                    first | exact ⟨_, _, _, _, _, rfl⟩ | (simp only [diptychlaw3_Cell.pv_eq, api_Attr.pv_eq, api_Node.pv_eq, token_Token.pv_eq, diptychref3_Token.pv_eq, pvL, List.map_cons, List.map_nil, List.map_append, rune1]; exact ⟨_, _, _, _, _, rfl⟩)
                  · intro s h; exact h.elim
              exact key _ _ _ f7 _ _ _ _
            · rintro s ⟨t, hless, out_39, rfl, v_40, nx, g3, g5, g19, rfl⟩
              try dsimp only at hh
              (repeat (with_reducible first | refine then_n ?_ | refine then_r ?_ | refine then_e ?_ | refine block_n ?_ | refine block_r ?_ | refine exit_here ?_ | refine exit_on rfl ?_ | refine scope_n ?_ | refine scope_r ?_ | refine scope_e ?_))
              first | (refine cut_less hless ?_; try refine cut_awp ?_) | refine frag_less hless ?_
              refine awp_exit ?_; (repeat (with_reducible first | refine then_n ?_ | refine then_r ?_ | refine then_e ?_ | refine block_n ?_ | refine block_r ?_ | refine exit_here ?_ | refine exit_on rfl ?_ | refine scope_n ?_ | refine scope_r ?_ | refine scope_e ?_ | refine cut_awp ?_))
              refine awp_region fun K kk hK => ?_
              simp only [go_sem, ↓reduceIte, reduceCtorEq, Nat.reduceEqDiff, Nat.reduceAdd, Nat.reduceMul, Nat.reduceSub, Nat.reduceLT, Nat.reduceLeDiff, Nat.reducePow, Nat.reduceBEq, Nat.reduceBNe, Int.reduceNeg, Int.reduceBEq, Int.reduceBNe, Int.reduceAdd, Int.reduceSub, Int.reduceMul, Int.reduceLT, Int.reduceLE, Int.reduceToNat, Int.reduceEq, Int.reduceNe, List.take_length, take_map_len, runesOf_eq, runeBytes_map, an_token_Of, nf_token_Of, fp_token_Of, ty3, ty5, ty9, ty21, ty23, ty24, ty25, ty27, ty31, ty40, ty58, diptychlaw3_Cell.pv_eq, api_Attr.pv_eq, api_Node.pv_eq, token_Token.pv_eq, diptychref3_Token.pv_eq, pvL, List.map_nil, hl0a, hl0b, hl0d, hl0w]
              refine hK _ _ fun nx => ?_; clear hK K; try clear kk
              (repeat (with_reducible first | refine then_n ?_ | refine then_r ?_ | refine then_e ?_ | refine block_n ?_ | refine block_r ?_ | refine exit_here ?_ | refine exit_on rfl ?_ | refine scope_n ?_ | refine scope_r ?_ | refine scope_e ?_ | refine cut_awp ?_))
              have ih' := ih (pre ++ [y_32]) (v_16 + 1) _ (by rw [hsplit]; simp) (by simp [hidx]) hh nx
              refine cut_id ?_
              first | exact ih' _ | (simp only [diptychlaw3_Cell.pv_eq, api_Attr.pv_eq, api_Node.pv_eq, token_Token.pv_eq, diptychref3_Token.pv_eq, pvL, List.map_cons, List.map_nil, List.map_append, rune1] at ih' ⊢; exact ih' _)
            · intro i s h; exact h.elim
            · intro s h; exact h.elim
          · rw [if_neg h30] at hh
            replace h30 := Bool.eq_false_iff.mpr h30
            refine awp_false (by first | exact congrArg PV.bool h30 | rfl) ?_
            refine awp_skip ?_; (repeat (with_reducible first | refine then_n ?_ | refine then_r ?_ | refine then_e ?_ | refine block_n ?_ | refine block_r ?_ | refine exit_here ?_ | refine exit_on rfl ?_ | refine scope_n ?_ | refine scope_r ?_ | refine scope_e ?_ | refine cut_awp ?_))
            obtain ⟨head_41, h37, hh⟩ := bind_ex hh
            obtain ⟨l_42, h38, hh⟩ := bind_ex hh
            obtain ⟨h38a, h38c⟩ := app_some h38
            have h38d := app_map (f := token_Token.pv) h38c
            have h38e := app_len h38c
            try simp only [List.length_cons, List.length_nil, Nat.zero_add, Nat.reduceAdd] at h38a h38e
            try simp only [h38e] at h38a
            try simp only [List.map_cons, List.map_nil, List.nil_append, List.append_nil, List.cons_append, List.singleton_append, rune1, diptychlaw3_Cell.pv_eq, api_Attr.pv_eq, api_Node.pv_eq, token_Token.pv_eq, diptychref3_Token.pv_eq, pvL] at h38d
            refine awp_first fun K kk hK => ?_
            simp only [go_sem, ↓reduceIte, reduceCtorEq, Nat.reduceEqDiff, Nat.reduceAdd, Nat.reduceMul, Nat.reduceSub, Nat.reduceLT, Nat.reduceLeDiff, Nat.reducePow, Nat.reduceBEq, Nat.reduceBNe, Int.reduceNeg, Int.reduceBEq, Int.reduceBNe, Int.reduceAdd, Int.reduceSub, Int.reduceMul, Int.reduceLT, Int.reduceLE, Int.reduceToNat, Int.reduceEq, Int.reduceNe, List.take_length, take_map_len, runesOf_eq, runeBytes_map, an_token_Of, nf_token_Of, fp_token_Of, ty3, ty5, ty9, ty21, ty23, ty24, ty25, ty27, ty31, ty40, ty58, diptychlaw3_Cell.pv_eq, api_Attr.pv_eq, api_Node.pv_eq, token_Token.pv_eq, diptychref3_Token.pv_eq, pvL, List.map_nil, h38a, h38d, h38e, hl0a, hl0b, hl0d, hl0w]
            (repeat (refine And.intro ?_ ?_; focus (first | assumption | (try simp only [List.length_append, List.length_cons, List.length_nil] at *; omega))))
            refine step_call2 (codec_Head_ok _ _ h37) (by try simp only [go_sem, ↓reduceIte, reduceCtorEq, Nat.reduceEqDiff, Nat.reduceAdd, Nat.reduceMul, Nat.reduceSub, Nat.reduceLT, Nat.reduceLeDiff, Nat.reducePow, Nat.reduceBEq, Nat.reduceBNe, Int.reduceNeg, Int.reduceBEq, Int.reduceBNe, Int.reduceAdd, Int.reduceSub, Int.reduceMul, Int.reduceLT, Int.reduceLE, Int.reduceToNat, Int.reduceEq, Int.reduceNe, List.take_length, take_map_len, runesOf_eq, runeBytes_map, an_token_Of, nf_token_Of, fp_token_Of, ty3, ty5, ty9, ty21, ty23, ty24, ty25, ty27, ty31, ty40, ty58, diptychlaw3_Cell.pv_eq, api_Attr.pv_eq, api_Node.pv_eq, token_Token.pv_eq, diptychref3_Token.pv_eq, pvL, List.map_nil, h38a, h38d, h38e, hl0a, hl0b, hl0d, hl0w]; (repeat (first | exact WkL.refl _ | exact Wk.refl _ | exact Wk.nil _ | refine WkL.cons _ _ _ _ ?_ ?_ | exact WkL.nil | refine Wk.agg _ _ ?_ | refine Wk.tup _ _ ?_))) (by rfl) (by rfl) ?_
            simp only [go_sem, ↓reduceIte, reduceCtorEq, Nat.reduceEqDiff, Nat.reduceAdd, Nat.reduceMul, Nat.reduceSub, Nat.reduceLT, Nat.reduceLeDiff, Nat.reducePow, Nat.reduceBEq, Nat.reduceBNe, Int.reduceNeg, Int.reduceBEq, Int.reduceBNe, Int.reduceAdd, Int.reduceSub, Int.reduceMul, Int.reduceLT, Int.reduceLE, Int.reduceToNat, Int.reduceEq, Int.reduceNe, List.take_length, take_map_len, runesOf_eq, runeBytes_map, an_token_Of, nf_token_Of, fp_token_Of, ty3, ty5, ty9, ty21, ty23, ty24, ty25, ty27, ty31, ty40, ty58, diptychlaw3_Cell.pv_eq, api_Attr.pv_eq, api_Node.pv_eq, token_Token.pv_eq, diptychref3_Token.pv_eq, pvL, List.map_nil, h38a, h38d, h38e, hl0a, hl0b, hl0d, hl0w]
            (repeat (refine And.intro ?_ ?_; focus (first | assumption | (try simp only [List.length_append, List.length_cons, List.length_nil] at *; omega))))
            refine hK _ _ fun nx => ?_; clear hK K; try clear kk
            obtain ⟨of_43, h39, hh⟩ := bind_ex hh
            obtain ⟨l_44, h40, hh⟩ := bind_ex hh
            obtain ⟨h40a, h40c⟩ := app_some h40
            have h40d := app_map (f := token_Token.pv) h40c
            have h40e := app_len h40c
            try simp only [List.length_cons, List.length_nil, Nat.zero_add, Nat.reduceAdd] at h40a h40e
            try simp only [h40e] at h40a
            try simp only [List.map_cons, List.map_nil, List.nil_append, List.append_nil, List.cons_append, List.singleton_append, rune1, diptychlaw3_Cell.pv_eq, api_Attr.pv_eq, api_Node.pv_eq, token_Token.pv_eq, diptychref3_Token.pv_eq, pvL] at h40d
            refine awp_first fun K kk hK => ?_
            simp only [go_sem, ↓reduceIte, reduceCtorEq, Nat.reduceEqDiff, Nat.reduceAdd, Nat.reduceMul, Nat.reduceSub, Nat.reduceLT, Nat.reduceLeDiff, Nat.reducePow, Nat.reduceBEq, Nat.reduceBNe, Int.reduceNeg, Int.reduceBEq, Int.reduceBNe, Int.reduceAdd, Int.reduceSub, Int.reduceMul, Int.reduceLT, Int.reduceLE, Int.reduceToNat, Int.reduceEq, Int.reduceNe, List.take_length, take_map_len, runesOf_eq, runeBytes_map, an_token_Of, nf_token_Of, fp_token_Of, ty3, ty5, ty9, ty21, ty23, ty24, ty25, ty27, ty31, ty40, ty58, diptychlaw3_Cell.pv_eq, api_Attr.pv_eq, api_Node.pv_eq, token_Token.pv_eq, diptychref3_Token.pv_eq, pvL, List.map_nil, h40a, h40d, h40e, hl0a, hl0b, hl0d, hl0w]
            (repeat (refine And.intro ?_ ?_; focus (first | assumption | (try simp only [List.length_append, List.length_cons, List.length_nil] at *; omega))))
            refine step_call2 (ih_token_Of _ _ h39).list (by try simp only [go_sem, ↓reduceIte, reduceCtorEq, Nat.reduceEqDiff, Nat.reduceAdd, Nat.reduceMul, Nat.reduceSub, Nat.reduceLT, Nat.reduceLeDiff, Nat.reducePow, Nat.reduceBEq, Nat.reduceBNe, Int.reduceNeg, Int.reduceBEq, Int.reduceBNe, Int.reduceAdd, Int.reduceSub, Int.reduceMul, Int.reduceLT, Int.reduceLE, Int.reduceToNat, Int.reduceEq, Int.reduceNe, List.take_length, take_map_len, runesOf_eq, runeBytes_map, an_token_Of, nf_token_Of, fp_token_Of, ty3, ty5, ty9, ty21, ty23, ty24, ty25, ty27, ty31, ty40, ty58, diptychlaw3_Cell.pv_eq, api_Attr.pv_eq, api_Node.pv_eq, token_Token.pv_eq, diptychref3_Token.pv_eq, pvL, List.map_nil, h40a, h40d, h40e, hl0a, hl0b, hl0d, hl0w]; (repeat (first | exact WkL.refl _ | exact Wk.refl _ | exact Wk.nil _ | refine WkL.cons _ _ _ _ ?_ ?_ | exact WkL.nil | refine Wk.agg _ _ ?_ | refine Wk.tup _ _ ?_))) (by rfl) (by rfl) ?_
            simp only [go_sem, ↓reduceIte, reduceCtorEq, Nat.reduceEqDiff, Nat.reduceAdd, Nat.reduceMul, Nat.reduceSub, Nat.reduceLT, Nat.reduceLeDiff, Nat.reducePow, Nat.reduceBEq, Nat.reduceBNe, Int.reduceNeg, Int.reduceBEq, Int.reduceBNe, Int.reduceAdd, Int.reduceSub, Int.reduceMul, Int.reduceLT, Int.reduceLE, Int.reduceToNat, Int.reduceEq, Int.reduceNe, List.take_length, take_map_len, runesOf_eq, runeBytes_map, an_token_Of, nf_token_Of, fp_token_Of, ty3, ty5, ty9, ty21, ty23, ty24, ty25, ty27, ty31, ty40, ty58, diptychlaw3_Cell.pv_eq, api_Attr.pv_eq, api_Node.pv_eq, token_Token.pv_eq, diptychref3_Token.pv_eq, pvL, List.map_nil, h40a, h40d, h40e, hl0a, hl0b, hl0d, hl0w]
            (repeat (refine And.intro ?_ ?_; focus (first | assumption | (try simp only [List.length_append, List.length_cons, List.length_nil] at *; omega))))
            refine hK _ _ fun nx => ?_; clear hK K; try clear kk
            obtain ⟨l_45, h41, hh⟩ := bind_ex hh
            obtain ⟨h41a, h41c⟩ := app_some h41
            have h41d := app_map (f := token_Token.pv) h41c
            have h41e := app_len h41c
            try simp only [List.length_cons, List.length_nil, Nat.zero_add, Nat.reduceAdd] at h41a h41e
            try simp only [h41e] at h41a
            try simp only [List.map_cons, List.map_nil, List.nil_append, List.append_nil, List.cons_append, List.singleton_append, rune1, diptychlaw3_Cell.pv_eq, api_Attr.pv_eq, api_Node.pv_eq, token_Token.pv_eq, diptychref3_Token.pv_eq, pvL] at h41d
            refine awp_region fun K kk hK => ?_
            simp only [go_sem, ↓reduceIte, reduceCtorEq, Nat.reduceEqDiff, Nat.reduceAdd, Nat.reduceMul, Nat.reduceSub, Nat.reduceLT, Nat.reduceLeDiff, Nat.reducePow, Nat.reduceBEq, Nat.reduceBNe, Int.reduceNeg, Int.reduceBEq, Int.reduceBNe, Int.reduceAdd, Int.reduceSub, Int.reduceMul, Int.reduceLT, Int.reduceLE, Int.reduceToNat, Int.reduceEq, Int.reduceNe, List.take_length, take_map_len, runesOf_eq, runeBytes_map, an_token_Of, nf_token_Of, fp_token_Of, ty3, ty5, ty9, ty21, ty23, ty24, ty25, ty27, ty31, ty40, ty58, diptychlaw3_Cell.pv_eq, api_Attr.pv_eq, api_Node.pv_eq, token_Token.pv_eq, diptychref3_Token.pv_eq, pvL, List.map_nil, h41a, h41d, h41e, hl0a, hl0b, hl0d, hl0w]
            (repeat (refine And.intro ?_ ?_; focus (first | assumption | (try simp only [List.length_append, List.length_cons, List.length_nil] at *; omega))))
            refine hK _ _ fun nx => ?_; clear hK K; try clear kk
            (repeat (with_reducible first | refine then_n ?_ | refine then_r ?_ | refine then_e ?_ | refine block_n ?_ | refine block_r ?_ | refine exit_here ?_ | refine exit_on rfl ?_ | refine scope_n ?_ | refine scope_r ?_ | refine scope_e ?_ | refine cut_awp ?_))
            refine awp_region fun K kk hK => ?_
            simp only [go_sem, ↓reduceIte, reduceCtorEq, Nat.reduceEqDiff, Nat.reduceAdd, Nat.reduceMul, Nat.reduceSub, Nat.reduceLT, Nat.reduceLeDiff, Nat.reducePow, Nat.reduceBEq, Nat.reduceBNe, Int.reduceNeg, Int.reduceBEq, Int.reduceBNe, Int.reduceAdd, Int.reduceSub, Int.reduceMul, Int.reduceLT, Int.reduceLE, Int.reduceToNat, Int.reduceEq, Int.reduceNe, List.take_length, take_map_len, runesOf_eq, runeBytes_map, an_token_Of, nf_token_Of, fp_token_Of, ty3, ty5, ty9, ty21, ty23, ty24, ty25, ty27, ty31, ty40, ty58, diptychlaw3_Cell.pv_eq, api_Attr.pv_eq, api_Node.pv_eq, token_Token.pv_eq, diptychref3_Token.pv_eq, pvL, List.map_nil, hl0a, hl0b, hl0d, hl0w]
            refine hK _ _ fun nx => ?_; clear hK K; try clear kk
            (repeat (with_reducible first | refine then_n ?_ | refine then_r ?_ | refine then_e ?_ | refine block_n ?_ | refine block_r ?_ | refine exit_here ?_ | refine exit_on rfl ?_ | refine scope_n ?_ | refine scope_r ?_ | refine scope_e ?_ | refine cut_awp ?_))
            have ih' := ih (pre ++ [y_32]) (v_16 + 1) _ (by rw [hsplit]; simp) (by simp [hidx]) hh nx
            refine cut_id ?_
            first | exact ih' _ | (simp only [diptychlaw3_Cell.pv_eq, api_Attr.pv_eq, api_Node.pv_eq, token_Token.pv_eq, diptychref3_Token.pv_eq, pvL, List.map_cons, List.map_nil, List.map_append, rune1, h38e, h40e, h41e] at ih' ⊢; exact ih' _)
      exact key l_1 [] _ _ rfl rfl f0 _ _
    · rintro s ⟨t, hless, out_48, rfl, v_46, v_47, nx, g3, rfl⟩
      try dsimp only at hh
      (repeat (with_reducible first | refine then_n ?_ | refine then_r ?_ | refine then_e ?_ | refine block_n ?_ | refine block_r ?_ | refine exit_here ?_ | refine exit_on rfl ?_ | refine scope_n ?_ | refine scope_r ?_ | refine scope_e ?_))
      first | (refine cut_less hless ?_; try refine cut_awp ?_) | refine frag_less hless ?_
      refine awp_first fun K kk hK => ?_
      simp only [go_sem, ↓reduceIte, reduceCtorEq, Nat.reduceEqDiff, Nat.reduceAdd, Nat.reduceMul, Nat.reduceSub, Nat.reduceLT, Nat.reduceLeDiff, Nat.reducePow, Nat.reduceBEq, Nat.reduceBNe, Int.reduceNeg, Int.reduceBEq, Int.reduceBNe, Int.reduceAdd, Int.reduceSub, Int.reduceMul, Int.reduceLT, Int.reduceLE, Int.reduceToNat, Int.reduceEq, Int.reduceNe, List.take_length, take_map_len, runesOf_eq, runeBytes_map, an_token_Of, nf_token_Of, fp_token_Of, ty3, ty5, ty9, ty21, ty23, ty24, ty25, ty27, ty31, ty40, ty58, diptychlaw3_Cell.pv_eq, api_Attr.pv_eq, api_Node.pv_eq, token_Token.pv_eq, diptychref3_Token.pv_eq, pvL, List.map_nil]
      refine hK _ _ fun nx => ?_; clear hK K; try clear kk
      refine awp_ret ?_; (repeat (with_reducible first | refine then_n ?_ | refine then_r ?_ | refine then_e ?_ | refine block_n ?_ | refine block_r ?_ | refine exit_here ?_ | refine exit_on rfl ?_ | refine scope_n ?_ | refine scope_r ?_ | refine scope_e ?_ | refine cut_awp ?_))
      obtain hR := Option.some.inj hh
      subst hR
      exact ret_own (by rfl) (by rfl) (by rfl) (by simp only [List.length_map, List.length_cons, List.length_nil, Nat.zero_add, Nat.reduceAdd]) (by first | rfl | (simp only [diptychlaw3_Cell.pv_eq, api_Attr.pv_eq, api_Node.pv_eq, token_Token.pv_eq, diptychref3_Token.pv_eq, pvL, List.map_cons, List.map_nil, List.map_append, rune1]; done) | (simp only [diptychlaw3_Cell.pv_eq, api_Attr.pv_eq, api_Node.pv_eq, token_Token.pv_eq, diptychref3_Token.pv_eq, pvL, List.map_cons, List.map_nil, List.map_append, rune1]; rfl))
    · intro i s h; exact h.elim
    · intro s h; exact h.elim
theorem token_Of_ok (l_1 : (List api_Node)) (R : (List token_Token)) (hh : token_Of l_1 = some R) : PC Tryd.prog 18 [.list 5 (l_1.map api_Node.pv)] (.own 3 (R.map token_Token.pv)) := by
  rw [token_Of] at hh
  obtain ⟨kr, hh⟩ := lim_some hh
  exact (token_Of_grp kr) _ _ hh
theorem diptychlaw3_shown_ok (R : Bool) (hh : diptychlaw3_shown = some R) : PC Tryd.prog 15 [] (.bool R) := by
  rw [diptychlaw3_shown] at hh
  refine start_diptychlaw3_shown rfl ?_
  refine awp_first fun K kk hK => ?_
  simp only [go_sem, ↓reduceIte, reduceCtorEq, Nat.reduceEqDiff, Nat.reduceAdd, Nat.reduceMul, Nat.reduceSub, Nat.reduceLT, Nat.reduceLeDiff, Nat.reducePow, Nat.reduceBEq, Nat.reduceBNe, Int.reduceNeg, Int.reduceBEq, Int.reduceBNe, Int.reduceAdd, Int.reduceSub, Int.reduceMul, Int.reduceLT, Int.reduceLE, Int.reduceToNat, Int.reduceEq, Int.reduceNe, List.take_length, take_map_len, runesOf_eq, runeBytes_map, an_diptychlaw3_shown, nf_diptychlaw3_shown, fp_diptychlaw3_shown, ty3, ty5, ty9, ty23, ty24, ty25, ty27, ty31, ty40, ty58, diptychlaw3_Cell.pv_eq, api_Attr.pv_eq, api_Node.pv_eq, token_Token.pv_eq, diptychref3_Token.pv_eq, pvL, List.map_nil]
  refine hK _ _ fun nx => ?_; clear hK K; try clear kk
  obtain ⟨of_1, h1, hh⟩ := bind_ex hh
  refine awp_first fun K kk hK => ?_
  simp only [go_sem, ↓reduceIte, reduceCtorEq, Nat.reduceEqDiff, Nat.reduceAdd, Nat.reduceMul, Nat.reduceSub, Nat.reduceLT, Nat.reduceLeDiff, Nat.reducePow, Nat.reduceBEq, Nat.reduceBNe, Int.reduceNeg, Int.reduceBEq, Int.reduceBNe, Int.reduceAdd, Int.reduceSub, Int.reduceMul, Int.reduceLT, Int.reduceLE, Int.reduceToNat, Int.reduceEq, Int.reduceNe, List.take_length, take_map_len, runesOf_eq, runeBytes_map, an_diptychlaw3_shown, nf_diptychlaw3_shown, fp_diptychlaw3_shown, ty3, ty5, ty9, ty23, ty24, ty25, ty27, ty31, ty40, ty58, diptychlaw3_Cell.pv_eq, api_Attr.pv_eq, api_Node.pv_eq, token_Token.pv_eq, diptychref3_Token.pv_eq, pvL, List.map_nil]
  refine step_call2 (token_Of_ok _ _ h1).list (by try simp only [go_sem, ↓reduceIte, reduceCtorEq, Nat.reduceEqDiff, Nat.reduceAdd, Nat.reduceMul, Nat.reduceSub, Nat.reduceLT, Nat.reduceLeDiff, Nat.reducePow, Nat.reduceBEq, Nat.reduceBNe, Int.reduceNeg, Int.reduceBEq, Int.reduceBNe, Int.reduceAdd, Int.reduceSub, Int.reduceMul, Int.reduceLT, Int.reduceLE, Int.reduceToNat, Int.reduceEq, Int.reduceNe, List.take_length, take_map_len, runesOf_eq, runeBytes_map, an_diptychlaw3_shown, nf_diptychlaw3_shown, fp_diptychlaw3_shown, ty3, ty5, ty9, ty23, ty24, ty25, ty27, ty31, ty40, ty58, diptychlaw3_Cell.pv_eq, api_Attr.pv_eq, api_Node.pv_eq, token_Token.pv_eq, diptychref3_Token.pv_eq, pvL, List.map_nil]; (repeat (first | exact WkL.refl _ | exact Wk.refl _ | exact Wk.nil _ | refine WkL.cons _ _ _ _ ?_ ?_ | exact WkL.nil | refine Wk.agg _ _ ?_ | refine Wk.tup _ _ ?_))) (by rfl) (by rfl) ?_
  simp only [go_sem, ↓reduceIte, reduceCtorEq, Nat.reduceEqDiff, Nat.reduceAdd, Nat.reduceMul, Nat.reduceSub, Nat.reduceLT, Nat.reduceLeDiff, Nat.reducePow, Nat.reduceBEq, Nat.reduceBNe, Int.reduceNeg, Int.reduceBEq, Int.reduceBNe, Int.reduceAdd, Int.reduceSub, Int.reduceMul, Int.reduceLT, Int.reduceLE, Int.reduceToNat, Int.reduceEq, Int.reduceNe, List.take_length, take_map_len, runesOf_eq, runeBytes_map, an_diptychlaw3_shown, nf_diptychlaw3_shown, fp_diptychlaw3_shown, ty3, ty5, ty9, ty23, ty24, ty25, ty27, ty31, ty40, ty58, diptychlaw3_Cell.pv_eq, api_Attr.pv_eq, api_Node.pv_eq, token_Token.pv_eq, diptychref3_Token.pv_eq, pvL, List.map_nil]
  refine hK _ _ fun nx => ?_; clear hK K; try clear kk
  by_cases h2 : ((of_1.length : Int) == (4 : Int)) = true
  · rw [if_pos h2] at hh
    obtain ⟨x_2, h3, hh⟩ := bind_ex hh
    obtain ⟨h3a, h3b, h3c⟩ := rd_some h3
    have h3d := rd_get (f := token_Token.pv) h3c
    have h3f := rd_more (f := token_Token.pv) h3c
    try simp only [Int.toNat_natCast, Int.reduceToNat] at h3d h3f
    by_cases h4 : ((((x_2.Kind == (111 : Int)) && ((x_2.Text == ([] : Str)) && (x_2.Head == ([112, 97, 114, 97] : Str)))) != false)) = true
    · rw [if_pos h4] at hh
      obtain ⟨x_3, h5, hh⟩ := bind_ex hh
      obtain ⟨h5a, h5b, h5c⟩ := rd_some h5
      have h5d := rd_get (f := token_Token.pv) h5c
      have h5f := rd_more (f := token_Token.pv) h5c
      try simp only [Int.toNat_natCast, Int.reduceToNat] at h5d h5f
      by_cases h6 : ((((x_3.Kind == (116 : Int)) && ((x_3.Text == ([104] : Str)) && (x_3.Head == ([] : Str)))) != false)) = true
      · rw [if_pos h6] at hh
        obtain ⟨x_4, h7, hh⟩ := bind_ex hh
        obtain ⟨h7a, h7b, h7c⟩ := rd_some h7
        have h7d := rd_get (f := token_Token.pv) h7c
        have h7f := rd_more (f := token_Token.pv) h7c
        try simp only [Int.toNat_natCast, Int.reduceToNat] at h7d h7f
        refine awp_first fun K kk hK => ?_
        simp only [go_sem, ↓reduceIte, reduceCtorEq, Nat.reduceEqDiff, Nat.reduceAdd, Nat.reduceMul, Nat.reduceSub, Nat.reduceLT, Nat.reduceLeDiff, Nat.reducePow, Nat.reduceBEq, Nat.reduceBNe, Int.reduceNeg, Int.reduceBEq, Int.reduceBNe, Int.reduceAdd, Int.reduceSub, Int.reduceMul, Int.reduceLT, Int.reduceLE, Int.reduceToNat, Int.reduceEq, Int.reduceNe, List.take_length, take_map_len, runesOf_eq, runeBytes_map, an_diptychlaw3_shown, nf_diptychlaw3_shown, fp_diptychlaw3_shown, ty3, ty5, ty9, ty23, ty24, ty25, ty27, ty31, ty40, ty58, diptychlaw3_Cell.pv_eq, api_Attr.pv_eq, api_Node.pv_eq, token_Token.pv_eq, diptychref3_Token.pv_eq, pvL, List.map_nil, h2, h3a, h3b, h3d, h3f.1, h3f.2, h2, h4, h5a, h5b, h5d, h5f.1, h5f.2, h4, h6, h7a, h7b, h7d, h7f.1, h7f.2, h6]
        (repeat (refine And.intro ?_ ?_; focus (first | assumption | (try simp only [List.length_append, List.length_cons, List.length_nil] at *; omega))))
        refine hK _ _ fun nx => ?_; clear hK K; try clear kk
        refine awp_ret ?_; (repeat (with_reducible first | refine then_n ?_ | refine then_r ?_ | refine then_e ?_ | refine block_n ?_ | refine block_r ?_ | refine exit_here ?_ | refine exit_on rfl ?_ | refine scope_n ?_ | refine scope_r ?_ | refine scope_e ?_ | refine cut_awp ?_))
        obtain hR := Option.some.inj hh
        subst hR
        refine ret_pure2 ?_ (by rfl)
        simp only [go_sem, ↓reduceIte, reduceCtorEq, Nat.reduceEqDiff, Nat.reduceAdd, Nat.reduceMul, Nat.reduceSub, Nat.reduceLT, Nat.reduceLeDiff, Nat.reducePow, Nat.reduceBEq, Nat.reduceBNe, Int.reduceNeg, Int.reduceBEq, Int.reduceBNe, Int.reduceAdd, Int.reduceSub, Int.reduceMul, Int.reduceLT, Int.reduceLE, Int.reduceToNat, Int.reduceEq, Int.reduceNe, List.take_length, take_map_len, runesOf_eq, runeBytes_map, an_diptychlaw3_shown, nf_diptychlaw3_shown, fp_diptychlaw3_shown, ty3, ty5, ty9, ty23, ty24, ty25, ty27, ty31, ty40, ty58, diptychlaw3_Cell.pv_eq, api_Attr.pv_eq, api_Node.pv_eq, token_Token.pv_eq, diptychref3_Token.pv_eq, pvL, List.map_nil, rvsRes, rvRes, cellRes, tupOf, pur2, List.map_cons, List.map_append, List.head?_cons]
        (repeat (first | exact Wk.refl _ | exact WkL.refl _ | exact Wk.nil _ | refine Wk.agg _ _ ?_ | refine Wk.tup _ _ ?_ | refine WkL.cons _ _ _ _ ?_ ?_ | exact WkL.nil))
      · rw [if_neg h6] at hh
        replace h6 := Bool.eq_false_iff.mpr h6
        refine awp_first fun K kk hK => ?_
        simp only [go_sem, ↓reduceIte, reduceCtorEq, Nat.reduceEqDiff, Nat.reduceAdd, Nat.reduceMul, Nat.reduceSub, Nat.reduceLT, Nat.reduceLeDiff, Nat.reducePow, Nat.reduceBEq, Nat.reduceBNe, Int.reduceNeg, Int.reduceBEq, Int.reduceBNe, Int.reduceAdd, Int.reduceSub, Int.reduceMul, Int.reduceLT, Int.reduceLE, Int.reduceToNat, Int.reduceEq, Int.reduceNe, List.take_length, take_map_len, runesOf_eq, runeBytes_map, an_diptychlaw3_shown, nf_diptychlaw3_shown, fp_diptychlaw3_shown, ty3, ty5, ty9, ty23, ty24, ty25, ty27, ty31, ty40, ty58, diptychlaw3_Cell.pv_eq, api_Attr.pv_eq, api_Node.pv_eq, token_Token.pv_eq, diptychref3_Token.pv_eq, pvL, List.map_nil, h2, h3a, h3b, h3d, h3f.1, h3f.2, h2, h4, h5a, h5b, h5d, h5f.1, h5f.2, h4, h6, h6]
        (repeat (refine And.intro ?_ ?_; focus (first | assumption | (try simp only [List.length_append, List.length_cons, List.length_nil] at *; omega))))
        refine hK _ _ fun nx => ?_; clear hK K; try clear kk
        refine awp_ret ?_; (repeat (with_reducible first | refine then_n ?_ | refine then_r ?_ | refine then_e ?_ | refine block_n ?_ | refine block_r ?_ | refine exit_here ?_ | refine exit_on rfl ?_ | refine scope_n ?_ | refine scope_r ?_ | refine scope_e ?_ | refine cut_awp ?_))
        obtain hR := Option.some.inj hh
        subst hR
        refine ret_pure2 ?_ (by rfl)
        simp only [go_sem, ↓reduceIte, reduceCtorEq, Nat.reduceEqDiff, Nat.reduceAdd, Nat.reduceMul, Nat.reduceSub, Nat.reduceLT, Nat.reduceLeDiff, Nat.reducePow, Nat.reduceBEq, Nat.reduceBNe, Int.reduceNeg, Int.reduceBEq, Int.reduceBNe, Int.reduceAdd, Int.reduceSub, Int.reduceMul, Int.reduceLT, Int.reduceLE, Int.reduceToNat, Int.reduceEq, Int.reduceNe, List.take_length, take_map_len, runesOf_eq, runeBytes_map, an_diptychlaw3_shown, nf_diptychlaw3_shown, fp_diptychlaw3_shown, ty3, ty5, ty9, ty23, ty24, ty25, ty27, ty31, ty40, ty58, diptychlaw3_Cell.pv_eq, api_Attr.pv_eq, api_Node.pv_eq, token_Token.pv_eq, diptychref3_Token.pv_eq, pvL, List.map_nil, rvsRes, rvRes, cellRes, tupOf, pur2, List.map_cons, List.map_append, List.head?_cons]
        (repeat (first | exact Wk.refl _ | exact WkL.refl _ | exact Wk.nil _ | refine Wk.agg _ _ ?_ | refine Wk.tup _ _ ?_ | refine WkL.cons _ _ _ _ ?_ ?_ | exact WkL.nil))
    · rw [if_neg h4] at hh
      replace h4 := Bool.eq_false_iff.mpr h4
      refine awp_first fun K kk hK => ?_
      simp only [go_sem, ↓reduceIte, reduceCtorEq, Nat.reduceEqDiff, Nat.reduceAdd, Nat.reduceMul, Nat.reduceSub, Nat.reduceLT, Nat.reduceLeDiff, Nat.reducePow, Nat.reduceBEq, Nat.reduceBNe, Int.reduceNeg, Int.reduceBEq, Int.reduceBNe, Int.reduceAdd, Int.reduceSub, Int.reduceMul, Int.reduceLT, Int.reduceLE, Int.reduceToNat, Int.reduceEq, Int.reduceNe, List.take_length, take_map_len, runesOf_eq, runeBytes_map, an_diptychlaw3_shown, nf_diptychlaw3_shown, fp_diptychlaw3_shown, ty3, ty5, ty9, ty23, ty24, ty25, ty27, ty31, ty40, ty58, diptychlaw3_Cell.pv_eq, api_Attr.pv_eq, api_Node.pv_eq, token_Token.pv_eq, diptychref3_Token.pv_eq, pvL, List.map_nil, h2, h3a, h3b, h3d, h3f.1, h3f.2, h2, h4, h4]
      (repeat (refine And.intro ?_ ?_; focus (first | assumption | (try simp only [List.length_append, List.length_cons, List.length_nil] at *; omega))))
      refine hK _ _ fun nx => ?_; clear hK K; try clear kk
      refine awp_ret ?_; (repeat (with_reducible first | refine then_n ?_ | refine then_r ?_ | refine then_e ?_ | refine block_n ?_ | refine block_r ?_ | refine exit_here ?_ | refine exit_on rfl ?_ | refine scope_n ?_ | refine scope_r ?_ | refine scope_e ?_ | refine cut_awp ?_))
      obtain hR := Option.some.inj hh
      subst hR
      refine ret_pure2 ?_ (by rfl)
      simp only [go_sem, ↓reduceIte, reduceCtorEq, Nat.reduceEqDiff, Nat.reduceAdd, Nat.reduceMul, Nat.reduceSub, Nat.reduceLT, Nat.reduceLeDiff, Nat.reducePow, Nat.reduceBEq, Nat.reduceBNe, Int.reduceNeg, Int.reduceBEq, Int.reduceBNe, Int.reduceAdd, Int.reduceSub, Int.reduceMul, Int.reduceLT, Int.reduceLE, Int.reduceToNat, Int.reduceEq, Int.reduceNe, List.take_length, take_map_len, runesOf_eq, runeBytes_map, an_diptychlaw3_shown, nf_diptychlaw3_shown, fp_diptychlaw3_shown, ty3, ty5, ty9, ty23, ty24, ty25, ty27, ty31, ty40, ty58, diptychlaw3_Cell.pv_eq, api_Attr.pv_eq, api_Node.pv_eq, token_Token.pv_eq, diptychref3_Token.pv_eq, pvL, List.map_nil, rvsRes, rvRes, cellRes, tupOf, pur2, List.map_cons, List.map_append, List.head?_cons]
      (repeat (first | exact Wk.refl _ | exact WkL.refl _ | exact Wk.nil _ | refine Wk.agg _ _ ?_ | refine Wk.tup _ _ ?_ | refine WkL.cons _ _ _ _ ?_ ?_ | exact WkL.nil))
  · rw [if_neg h2] at hh
    replace h2 := Bool.eq_false_iff.mpr h2
    refine awp_first fun K kk hK => ?_
    simp only [go_sem, ↓reduceIte, reduceCtorEq, Nat.reduceEqDiff, Nat.reduceAdd, Nat.reduceMul, Nat.reduceSub, Nat.reduceLT, Nat.reduceLeDiff, Nat.reducePow, Nat.reduceBEq, Nat.reduceBNe, Int.reduceNeg, Int.reduceBEq, Int.reduceBNe, Int.reduceAdd, Int.reduceSub, Int.reduceMul, Int.reduceLT, Int.reduceLE, Int.reduceToNat, Int.reduceEq, Int.reduceNe, List.take_length, take_map_len, runesOf_eq, runeBytes_map, an_diptychlaw3_shown, nf_diptychlaw3_shown, fp_diptychlaw3_shown, ty3, ty5, ty9, ty23, ty24, ty25, ty27, ty31, ty40, ty58, diptychlaw3_Cell.pv_eq, api_Attr.pv_eq, api_Node.pv_eq, token_Token.pv_eq, diptychref3_Token.pv_eq, pvL, List.map_nil, h2, h2]
    (repeat (refine And.intro ?_ ?_; focus (first | assumption | (try simp only [List.length_append, List.length_cons, List.length_nil] at *; omega))))
    refine hK _ _ fun nx => ?_; clear hK K; try clear kk
    refine awp_ret ?_; (repeat (with_reducible first | refine then_n ?_ | refine then_r ?_ | refine then_e ?_ | refine block_n ?_ | refine block_r ?_ | refine exit_here ?_ | refine exit_on rfl ?_ | refine scope_n ?_ | refine scope_r ?_ | refine scope_e ?_ | refine cut_awp ?_))
    obtain hR := Option.some.inj hh
    subst hR
    refine ret_pure2 ?_ (by rfl)
    simp only [go_sem, ↓reduceIte, reduceCtorEq, Nat.reduceEqDiff, Nat.reduceAdd, Nat.reduceMul, Nat.reduceSub, Nat.reduceLT, Nat.reduceLeDiff, Nat.reducePow, Nat.reduceBEq, Nat.reduceBNe, Int.reduceNeg, Int.reduceBEq, Int.reduceBNe, Int.reduceAdd, Int.reduceSub, Int.reduceMul, Int.reduceLT, Int.reduceLE, Int.reduceToNat, Int.reduceEq, Int.reduceNe, List.take_length, take_map_len, runesOf_eq, runeBytes_map, an_diptychlaw3_shown, nf_diptychlaw3_shown, fp_diptychlaw3_shown, ty3, ty5, ty9, ty23, ty24, ty25, ty27, ty31, ty40, ty58, diptychlaw3_Cell.pv_eq, api_Attr.pv_eq, api_Node.pv_eq, token_Token.pv_eq, diptychref3_Token.pv_eq, pvL, List.map_nil, rvsRes, rvRes, cellRes, tupOf, pur2, List.map_cons, List.map_append, List.head?_cons]
    (repeat (first | exact Wk.refl _ | exact WkL.refl _ | exact Wk.nil _ | refine Wk.agg _ _ ?_ | refine Wk.tup _ _ ?_ | refine WkL.cons _ _ _ _ ?_ ?_ | exact WkL.nil))

end Go.Proofs.YtlgjbmgmoaphjaaDoor
