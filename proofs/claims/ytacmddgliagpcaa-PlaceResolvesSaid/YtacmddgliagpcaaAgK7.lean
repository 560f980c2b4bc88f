/- What the functions answer, the program answers (7). -/
import Derived.Test.YtacmddgliagpcaaAgC
import Derived.Test.YtacmddgliagpcaaAgF
import Derived.Test.YtacmddgliagpcaaAgK6
namespace Go.Proofs.Ytacmddgliagpcaa
set_option linter.unusedSimpArgs false
set_option linter.unusedVariables false
open Go
set_option maxRecDepth 100000

theorem diptychref4_Spots_grp : ∀ kr : Nat, (∀ (n_1 : api_Node) (path_2 : (List Int)) (R : (List diptychref4_Spot)), diptychref4_Spots_k kr n_1 path_2 = some R → PC Try.prog 15 [.agg [.str n_1.Kind, .str n_1.Text, .list 1 (n_1.Marks.map PV.str), .list 2 (n_1.Attrs.map api_Attr.pv), .list 5 (n_1.Kids.map api_Node.pv)], .list 1 (path_2.map (PV.int .i64))] (.own 3 (R.map diptychref4_Spot.pv))) := by
  intro kr
  induction kr with
  | zero => exact (by intro n_1 path_2 R hh; rw [diptychref4_Spots_k] at hh; cases hh)
  | succ kr ih =>
    have ih_diptychref4_Spots := ih
    clear ih
    intro n_1 path_2 R hh
    rw [diptychref4_Spots_k] at hh
    refine start_diptychref4_Spots rfl ?_
    refine awp_first fun K kk hK => ?_
    simp only [go_sem, ↓reduceIte, reduceCtorEq, Nat.reduceEqDiff, Nat.reduceAdd, Nat.reduceMul, Nat.reduceSub, Nat.reduceLT, Nat.reduceLeDiff, Nat.reducePow, Nat.reduceBEq, Nat.reduceBNe, Int.reduceNeg, Int.reduceBEq, Int.reduceBNe, Int.reduceAdd, Int.reduceSub, Int.reduceMul, Int.reduceLT, Int.reduceLE, Int.reduceToNat, Int.reduceEq, Int.reduceNe, List.take_length, take_map_len, runesOf_eq, runeBytes_map, an_diptychref4_Spots, nf_diptychref4_Spots, fp_diptychref4_Spots, ty3, ty9, ty23, ty27, ty28, ty29, ty31, ty36, ty48, ty58, diptychlaw4_Cell.pv_eq, place_Spot.pv_eq, api_Attr.pv_eq, api_Node.pv_eq, diptychref4_Spot.pv_eq, pvL, List.map_nil]
    refine hK _ _ fun nx => ?_; clear hK K; try clear kk
    refine awp_first fun K kk hK => ?_
    simp only [go_sem, ↓reduceIte, reduceCtorEq, Nat.reduceEqDiff, Nat.reduceAdd, Nat.reduceMul, Nat.reduceSub, Nat.reduceLT, Nat.reduceLeDiff, Nat.reducePow, Nat.reduceBEq, Nat.reduceBNe, Int.reduceNeg, Int.reduceBEq, Int.reduceBNe, Int.reduceAdd, Int.reduceSub, Int.reduceMul, Int.reduceLT, Int.reduceLE, Int.reduceToNat, Int.reduceEq, Int.reduceNe, List.take_length, take_map_len, runesOf_eq, runeBytes_map, an_diptychref4_Spots, nf_diptychref4_Spots, fp_diptychref4_Spots, ty3, ty9, ty23, ty27, ty28, ty29, ty31, ty36, ty48, ty58, diptychlaw4_Cell.pv_eq, place_Spot.pv_eq, api_Attr.pv_eq, api_Node.pv_eq, diptychref4_Spot.pv_eq, pvL, List.map_nil]
    refine hK _ _ fun nx => ?_; clear hK K; try clear kk
    refine awp_seq ?_
    refine awp_first fun K kk hK => ?_
    simp only [go_sem, ↓reduceIte, reduceCtorEq, Nat.reduceEqDiff, Nat.reduceAdd, Nat.reduceMul, Nat.reduceSub, Nat.reduceLT, Nat.reduceLeDiff, Nat.reducePow, Nat.reduceBEq, Nat.reduceBNe, Int.reduceNeg, Int.reduceBEq, Int.reduceBNe, Int.reduceAdd, Int.reduceSub, Int.reduceMul, Int.reduceLT, Int.reduceLE, Int.reduceToNat, Int.reduceEq, Int.reduceNe, List.take_length, take_map_len, runesOf_eq, runeBytes_map, an_diptychref4_Spots, nf_diptychref4_Spots, fp_diptychref4_Spots, ty3, ty9, ty23, ty27, ty28, ty29, ty31, ty36, ty48, ty58, diptychlaw4_Cell.pv_eq, place_Spot.pv_eq, api_Attr.pv_eq, api_Node.pv_eq, diptychref4_Spot.pv_eq, pvL, List.map_nil]
    refine hK _ _ fun nx => ?_; clear hK K; try clear kk
    obtain ⟨e0, f0, hh⟩ := bind_ex hh
    obtain ⟨hlen0, f0⟩ := chk_some f0
    refine awp_fragE (CutTo (fun s => ∃ out_52, out_52 = e0 ∧ ∃ (i_50 : Int) (v_51 : Bool) (nx : Nat) (g2 : Nat) (g5 : Nat), s = ⟨[(1, .list 1 (path_2.map (PV.int .i64))), (2, .box 2 g2 0), (5, .row 5 g5 out_52.length), (6, .int .i64 i_50), (13, .bool v_51)], [(2, g2, .var [.str n_1.Kind, .str n_1.Text, .list 1 (n_1.Marks.map PV.str), .list 2 (n_1.Attrs.map api_Attr.pv), .list 5 (n_1.Kids.map api_Node.pv)]), (5, g5, .row false 3 (out_52.map diptychref4_Spot.pv))], nx⟩))
      (fun i s => False)
      (fun s => False) ?_ ?_ ?_ ?_
    · refine awp_block ?_
      refine awp_loopJ fun I hI => ?_
      have key : ∀ (suf pre : List api_Node) (i_18 : Int) (out_19 : (List diptychref4_Spot)), n_1.Kids = pre ++ suf → i_18 = (pre.length : Int) → diptychref4_Spots_l0 path_2 (diptychref4_Spots_k kr) suf i_18 out_19 = some e0 → ∀ (nx : Nat) (g2 : Nat) (g5 : Nat), I ⟨[(1, .list 1 (path_2.map (PV.int .i64))), (2, .box 2 g2 0), (5, .row 5 g5 out_19.length), (6, .int .i64 i_18)], [(2, g2, .var [.str n_1.Kind, .str n_1.Text, .list 1 (n_1.Marks.map PV.str), .list 2 (n_1.Attrs.map api_Attr.pv), .list 5 (n_1.Kids.map api_Node.pv)]), (5, g5, .row false 3 (out_19.map diptychref4_Spot.pv))], nx⟩ := by
        intro suf
        induction suf with
        | nil =>
          intro pre i_18 out_19 hsplit hidx hh nx g2 g5
          rw [diptychref4_Spots_l0] at hh
          refine hI _ ?_
          have h29 := walk_nil hsplit hidx
          refine awp_seq ?_
          refine awp_first fun K kk hK => ?_
          simp only [go_sem, ↓reduceIte, reduceCtorEq, Nat.reduceEqDiff, Nat.reduceAdd, Nat.reduceMul, Nat.reduceSub, Nat.reduceLT, Nat.reduceLeDiff, Nat.reducePow, Nat.reduceBEq, Nat.reduceBNe, Int.reduceNeg, Int.reduceBEq, Int.reduceBNe, Int.reduceAdd, Int.reduceSub, Int.reduceMul, Int.reduceLT, Int.reduceLE, Int.reduceToNat, Int.reduceEq, Int.reduceNe, List.take_length, take_map_len, runesOf_eq, runeBytes_map, an_diptychref4_Spots, nf_diptychref4_Spots, fp_diptychref4_Spots, ty3, ty9, ty23, ty27, ty28, ty29, ty31, ty36, ty48, ty58, diptychlaw4_Cell.pv_eq, place_Spot.pv_eq, api_Attr.pv_eq, api_Node.pv_eq, diptychref4_Spot.pv_eq, pvL, List.map_nil]
          refine hK _ _ fun nx => ?_; clear hK K; try clear kk
          refine awp_false (by first | exact congrArg PV.bool h29 | rfl) ?_
          refine awp_exit ?_; (repeat (with_reducible first | refine then_n ?_ | refine then_r ?_ | refine then_e ?_ | refine block_n ?_ | refine block_r ?_ | refine exit_here ?_ | refine exit_on rfl ?_ | refine scope_n ?_ | refine scope_r ?_ | refine scope_e ?_ | refine cut_awp ?_))
          refine fragN ?_
          refine cut_id ?_
          refine ⟨_, (Option.some.inj hh), ?_⟩
          first | exact ⟨_, _, _, _, _, rfl⟩ | (simp only [diptychlaw4_Cell.pv_eq, place_Spot.pv_eq, api_Attr.pv_eq, api_Node.pv_eq, diptychref4_Spot.pv_eq, pvL, List.map_cons, List.map_nil, List.map_append, rune1]; exact ⟨_, _, _, _, _, rfl⟩)
        | cons y_35 suf ih =>
          intro pre i_18 out_19 hsplit hidx hh nx g2 g5
          rw [diptychref4_Spots_l0] at hh
          refine hI _ ?_
          obtain ⟨hl0a, hl0b, hl0d, hl0w, h29⟩ := walk_cons (f := api_Node.pv) hsplit hidx hlen0
          refine awp_seq ?_
          refine awp_first fun K kk hK => ?_
          simp only [go_sem, ↓reduceIte, reduceCtorEq, Nat.reduceEqDiff, Nat.reduceAdd, Nat.reduceMul, Nat.reduceSub, Nat.reduceLT, Nat.reduceLeDiff, Nat.reducePow, Nat.reduceBEq, Nat.reduceBNe, Int.reduceNeg, Int.reduceBEq, Int.reduceBNe, Int.reduceAdd, Int.reduceSub, Int.reduceMul, Int.reduceLT, Int.reduceLE, Int.reduceToNat, Int.reduceEq, Int.reduceNe, List.take_length, take_map_len, runesOf_eq, runeBytes_map, an_diptychref4_Spots, nf_diptychref4_Spots, fp_diptychref4_Spots, ty3, ty9, ty23, ty27, ty28, ty29, ty31, ty36, ty48, ty58, diptychlaw4_Cell.pv_eq, place_Spot.pv_eq, api_Attr.pv_eq, api_Node.pv_eq, diptychref4_Spot.pv_eq, pvL, List.map_nil]
          refine hK _ _ fun nx => ?_; clear hK K; try clear kk
          refine awp_true (by first | exact congrArg PV.bool h29 | rfl) ?_
          refine awp_skip ?_; (repeat (with_reducible first | refine then_n ?_ | refine then_r ?_ | refine then_e ?_ | refine block_n ?_ | refine block_r ?_ | refine exit_here ?_ | refine exit_on rfl ?_ | refine scope_n ?_ | refine scope_r ?_ | refine scope_e ?_ | refine cut_awp ?_))
          refine awp_seq ?_
          refine awp_block ?_
          refine awp_first fun K kk hK => ?_
          simp only [go_sem, ↓reduceIte, reduceCtorEq, Nat.reduceEqDiff, Nat.reduceAdd, Nat.reduceMul, Nat.reduceSub, Nat.reduceLT, Nat.reduceLeDiff, Nat.reducePow, Nat.reduceBEq, Nat.reduceBNe, Int.reduceNeg, Int.reduceBEq, Int.reduceBNe, Int.reduceAdd, Int.reduceSub, Int.reduceMul, Int.reduceLT, Int.reduceLE, Int.reduceToNat, Int.reduceEq, Int.reduceNe, List.take_length, take_map_len, runesOf_eq, runeBytes_map, an_diptychref4_Spots, nf_diptychref4_Spots, fp_diptychref4_Spots, ty3, ty9, ty23, ty27, ty28, ty29, ty31, ty36, ty48, ty58, diptychlaw4_Cell.pv_eq, place_Spot.pv_eq, api_Attr.pv_eq, api_Node.pv_eq, diptychref4_Spot.pv_eq, pvL, List.map_nil, hl0a, hl0b, hl0d, hl0w]
          refine hK _ _ fun nx => ?_; clear hK K; try clear kk
          refine awp_seq ?_
          refine awp_first fun K kk hK => ?_
          simp only [go_sem, ↓reduceIte, reduceCtorEq, Nat.reduceEqDiff, Nat.reduceAdd, Nat.reduceMul, Nat.reduceSub, Nat.reduceLT, Nat.reduceLeDiff, Nat.reducePow, Nat.reduceBEq, Nat.reduceBNe, Int.reduceNeg, Int.reduceBEq, Int.reduceBNe, Int.reduceAdd, Int.reduceSub, Int.reduceMul, Int.reduceLT, Int.reduceLE, Int.reduceToNat, Int.reduceEq, Int.reduceNe, List.take_length, take_map_len, runesOf_eq, runeBytes_map, an_diptychref4_Spots, nf_diptychref4_Spots, fp_diptychref4_Spots, ty3, ty9, ty23, ty27, ty28, ty29, ty31, ty36, ty48, ty58, diptychlaw4_Cell.pv_eq, place_Spot.pv_eq, api_Attr.pv_eq, api_Node.pv_eq, diptychref4_Spot.pv_eq, pvL, List.map_nil, hl0a, hl0b, hl0d, hl0w]
          refine hK _ _ fun nx => ?_; clear hK K; try clear kk
          by_cases h30 : (y_35.Kind == ([116, 101, 120, 116] : Str)) = true
          · rw [if_pos h30] at hh
            refine awp_true (by first | exact congrArg PV.bool h30 | rfl) ?_
            refine awp_seq ?_
            refine awp_first fun K kk hK => ?_
            simp only [go_sem, ↓reduceIte, reduceCtorEq, Nat.reduceEqDiff, Nat.reduceAdd, Nat.reduceMul, Nat.reduceSub, Nat.reduceLT, Nat.reduceLeDiff, Nat.reducePow, Nat.reduceBEq, Nat.reduceBNe, Int.reduceNeg, Int.reduceBEq, Int.reduceBNe, Int.reduceAdd, Int.reduceSub, Int.reduceMul, Int.reduceLT, Int.reduceLE, Int.reduceToNat, Int.reduceEq, Int.reduceNe, List.take_length, take_map_len, runesOf_eq, runeBytes_map, an_diptychref4_Spots, nf_diptychref4_Spots, fp_diptychref4_Spots, ty3, ty9, ty23, ty27, ty28, ty29, ty31, ty36, ty48, ty58, diptychlaw4_Cell.pv_eq, place_Spot.pv_eq, api_Attr.pv_eq, api_Node.pv_eq, diptychref4_Spot.pv_eq, pvL, List.map_nil, hl0a, hl0b, hl0d, hl0w]
            refine hK _ _ fun nx => ?_; clear hK K; try clear kk
            obtain ⟨e3, f3, hh⟩ := bind_ex hh
            refine awp_fragE (CutTo (fun s => ∃ out_44, out_44 = e3 ∧ ∃ (j_42 : Int) (v_43 : Bool) (nx : Nat) (g2 : Nat) (g5 : Nat) (g7 : Nat), s = ⟨[(1, .list 1 (path_2.map (PV.int .i64))), (2, .box 2 g2 0), (5, .row 5 g5 out_44.length), (6, .int .i64 i_18), (7, .box 7 g7 0), (8, .int .i64 j_42), (27, .bool v_43)], [(2, g2, .var [.str n_1.Kind, .str n_1.Text, .list 1 (n_1.Marks.map PV.str), .list 2 (n_1.Attrs.map api_Attr.pv), .list 5 (n_1.Kids.map api_Node.pv)]), (5, g5, .row false 3 (out_44.map diptychref4_Spot.pv)), (7, g7, .var [.str y_35.Kind, .str y_35.Text, .list 1 (y_35.Marks.map PV.str), .list 2 (y_35.Attrs.map api_Attr.pv), .list 5 (y_35.Kids.map api_Node.pv)])], nx⟩))
              (fun i s => False)
              (fun s => False) ?_ ?_ ?_ ?_
            · refine awp_block ?_
              refine awp_loopJ fun I hI => ?_
              obtain ⟨k, f3⟩ := lim_some f3
              have key : ∀ (k : Nat) (j_38 : Int) (out_39 : (List diptychref4_Spot)), diptychref4_Spots_l3 path_2 i_18 y_35 k j_38 out_39 = some e3 → ∀ (nx : Nat) (g2 : Nat) (g5 : Nat) (g7 : Nat), I ⟨[(1, .list 1 (path_2.map (PV.int .i64))), (2, .box 2 g2 0), (5, .row 5 g5 out_39.length), (6, .int .i64 i_18), (7, .box 7 g7 0), (8, .int .i64 j_38)], [(2, g2, .var [.str n_1.Kind, .str n_1.Text, .list 1 (n_1.Marks.map PV.str), .list 2 (n_1.Attrs.map api_Attr.pv), .list 5 (n_1.Kids.map api_Node.pv)]), (5, g5, .row false 3 (out_39.map diptychref4_Spot.pv)), (7, g7, .var [.str y_35.Kind, .str y_35.Text, .list 1 (y_35.Marks.map PV.str), .list 2 (y_35.Attrs.map api_Attr.pv), .list 5 (y_35.Kids.map api_Node.pv)])], nx⟩ := by
                intro k
                induction k with
                | zero => intro j_38 out_39 hh; rw [diptychref4_Spots_l3] at hh; cases hh
                | succ k ih =>
                  intro j_38 out_39 hh nx g2 g5 g7
                  rw [diptychref4_Spots_l3] at hh
                  refine hI _ ?_
                  refine awp_seq ?_
                  obtain ⟨size_40, h34, hh⟩ := bind_ex hh
                  refine awp_first fun K kk hK => ?_
                  simp only [go_sem, ↓reduceIte, reduceCtorEq, Nat.reduceEqDiff, Nat.reduceAdd, Nat.reduceMul, Nat.reduceSub, Nat.reduceLT, Nat.reduceLeDiff, Nat.reducePow, Nat.reduceBEq, Nat.reduceBNe, Int.reduceNeg, Int.reduceBEq, Int.reduceBNe, Int.reduceAdd, Int.reduceSub, Int.reduceMul, Int.reduceLT, Int.reduceLE, Int.reduceToNat, Int.reduceEq, Int.reduceNe, List.take_length, take_map_len, runesOf_eq, runeBytes_map, an_diptychref4_Spots, nf_diptychref4_Spots, fp_diptychref4_Spots, ty3, ty9, ty23, ty27, ty28, ty29, ty31, ty36, ty48, ty58, diptychlaw4_Cell.pv_eq, place_Spot.pv_eq, api_Attr.pv_eq, api_Node.pv_eq, diptychref4_Spot.pv_eq, pvL, List.map_nil, hl0a, hl0b, hl0d, hl0w]
                  refine step_call2 (diptychref1_Size_ok _ _ h34) (by try simp only [go_sem, ↓reduceIte, reduceCtorEq, Nat.reduceEqDiff, Nat.reduceAdd, Nat.reduceMul, Nat.reduceSub, Nat.reduceLT, Nat.reduceLeDiff, Nat.reducePow, Nat.reduceBEq, Nat.reduceBNe, Int.reduceNeg, Int.reduceBEq, Int.reduceBNe, Int.reduceAdd, Int.reduceSub, Int.reduceMul, Int.reduceLT, Int.reduceLE, Int.reduceToNat, Int.reduceEq, Int.reduceNe, List.take_length, take_map_len, runesOf_eq, runeBytes_map, an_diptychref4_Spots, nf_diptychref4_Spots, fp_diptychref4_Spots, ty3, ty9, ty23, ty27, ty28, ty29, ty31, ty36, ty48, ty58, diptychlaw4_Cell.pv_eq, place_Spot.pv_eq, api_Attr.pv_eq, api_Node.pv_eq, diptychref4_Spot.pv_eq, pvL, List.map_nil, hl0a, hl0b, hl0d, hl0w]; (repeat (first | exact WkL.refl _ | exact Wk.refl _ | exact Wk.nil _ | refine WkL.cons _ _ _ _ ?_ ?_ | exact WkL.nil | refine Wk.agg _ _ ?_ | refine Wk.tup _ _ ?_))) (by rfl) (by rfl) ?_
                  simp only [go_sem, ↓reduceIte, reduceCtorEq, Nat.reduceEqDiff, Nat.reduceAdd, Nat.reduceMul, Nat.reduceSub, Nat.reduceLT, Nat.reduceLeDiff, Nat.reducePow, Nat.reduceBEq, Nat.reduceBNe, Int.reduceNeg, Int.reduceBEq, Int.reduceBNe, Int.reduceAdd, Int.reduceSub, Int.reduceMul, Int.reduceLT, Int.reduceLE, Int.reduceToNat, Int.reduceEq, Int.reduceNe, List.take_length, take_map_len, runesOf_eq, runeBytes_map, an_diptychref4_Spots, nf_diptychref4_Spots, fp_diptychref4_Spots, ty3, ty9, ty23, ty27, ty28, ty29, ty31, ty36, ty48, ty58, diptychlaw4_Cell.pv_eq, place_Spot.pv_eq, api_Attr.pv_eq, api_Node.pv_eq, diptychref4_Spot.pv_eq, pvL, List.map_nil, hl0a, hl0b, hl0d, hl0w]
                  refine hK _ _ fun nx => ?_; clear hK K; try clear kk
                  by_cases h35 : (decide (j_38 < size_40)) = true
                  · rw [if_pos h35] at hh
                    refine awp_true (by first | exact congrArg PV.bool h35 | rfl) ?_
                    refine awp_skip ?_; (repeat (with_reducible first | refine then_n ?_ | refine then_r ?_ | refine then_e ?_ | refine block_n ?_ | refine block_r ?_ | refine exit_here ?_ | refine exit_on rfl ?_ | refine scope_n ?_ | refine scope_r ?_ | refine scope_e ?_ | refine cut_awp ?_))
                    refine awp_seq ?_
                    refine awp_block ?_
                    obtain ⟨l_41, h36, hh⟩ := bind_ex hh
                    obtain ⟨h36a, h36c⟩ := app_some h36
                    have h36d := app_map (f := diptychref4_Spot.pv) h36c
                    have h36e := app_len h36c
                    try simp only [List.length_cons, List.length_nil, Nat.zero_add, Nat.reduceAdd] at h36a h36e
                    try simp only [h36e] at h36a
                    try simp only [List.map_cons, List.map_nil, List.nil_append, List.append_nil, List.cons_append, List.singleton_append, rune1, diptychlaw4_Cell.pv_eq, place_Spot.pv_eq, api_Attr.pv_eq, api_Node.pv_eq, diptychref4_Spot.pv_eq, pvL] at h36d
                    refine awp_region fun K kk hK => ?_
                    simp only [go_sem, ↓reduceIte, reduceCtorEq, Nat.reduceEqDiff, Nat.reduceAdd, Nat.reduceMul, Nat.reduceSub, Nat.reduceLT, Nat.reduceLeDiff, Nat.reducePow, Nat.reduceBEq, Nat.reduceBNe, Int.reduceNeg, Int.reduceBEq, Int.reduceBNe, Int.reduceAdd, Int.reduceSub, Int.reduceMul, Int.reduceLT, Int.reduceLE, Int.reduceToNat, Int.reduceEq, Int.reduceNe, List.take_length, take_map_len, runesOf_eq, runeBytes_map, an_diptychref4_Spots, nf_diptychref4_Spots, fp_diptychref4_Spots, ty3, ty9, ty23, ty27, ty28, ty29, ty31, ty36, ty48, ty58, diptychlaw4_Cell.pv_eq, place_Spot.pv_eq, api_Attr.pv_eq, api_Node.pv_eq, diptychref4_Spot.pv_eq, pvL, List.map_nil, h36a, h36d, h36e, hl0a, hl0b, hl0d, hl0w]
                    (repeat (refine And.intro ?_ ?_; focus (first | assumption | (try simp only [List.length_append, List.length_cons, List.length_nil] at *; omega))))
                    refine hK _ _ fun nx => ?_; clear hK K; try clear kk
                    (repeat (with_reducible first | refine then_n ?_ | refine then_r ?_ | refine then_e ?_ | refine block_n ?_ | refine block_r ?_ | refine exit_here ?_ | refine exit_on rfl ?_ | refine scope_n ?_ | refine scope_r ?_ | refine scope_e ?_ | refine cut_awp ?_))
                    refine awp_region fun K kk hK => ?_
                    simp only [go_sem, ↓reduceIte, reduceCtorEq, Nat.reduceEqDiff, Nat.reduceAdd, Nat.reduceMul, Nat.reduceSub, Nat.reduceLT, Nat.reduceLeDiff, Nat.reducePow, Nat.reduceBEq, Nat.reduceBNe, Int.reduceNeg, Int.reduceBEq, Int.reduceBNe, Int.reduceAdd, Int.reduceSub, Int.reduceMul, Int.reduceLT, Int.reduceLE, Int.reduceToNat, Int.reduceEq, Int.reduceNe, List.take_length, take_map_len, runesOf_eq, runeBytes_map, an_diptychref4_Spots, nf_diptychref4_Spots, fp_diptychref4_Spots, ty3, ty9, ty23, ty27, ty28, ty29, ty31, ty36, ty48, ty58, diptychlaw4_Cell.pv_eq, place_Spot.pv_eq, api_Attr.pv_eq, api_Node.pv_eq, diptychref4_Spot.pv_eq, pvL, List.map_nil, hl0a, hl0b, hl0d, hl0w]
                    refine hK _ _ fun nx => ?_; clear hK K; try clear kk
                    (repeat (with_reducible first | refine then_n ?_ | refine then_r ?_ | refine then_e ?_ | refine block_n ?_ | refine block_r ?_ | refine exit_here ?_ | refine exit_on rfl ?_ | refine scope_n ?_ | refine scope_r ?_ | refine scope_e ?_ | refine cut_awp ?_))
                    have ih' := ih _ _ hh nx
                    refine cut_id ?_
                    first | exact ih' _ _ _ | (simp only [diptychlaw4_Cell.pv_eq, place_Spot.pv_eq, api_Attr.pv_eq, api_Node.pv_eq, diptychref4_Spot.pv_eq, pvL, List.map_cons, List.map_nil, List.map_append, rune1, h36e] at ih' ⊢; exact ih' _ _ _)
                  · rw [if_neg h35] at hh
                    replace h35 := Bool.eq_false_iff.mpr h35
                    refine awp_false (by first | exact congrArg PV.bool h35 | rfl) ?_
                    refine awp_exit ?_; (repeat (with_reducible first | refine then_n ?_ | refine then_r ?_ | refine then_e ?_ | refine block_n ?_ | refine block_r ?_ | refine exit_here ?_ | refine exit_on rfl ?_ | refine scope_n ?_ | refine scope_r ?_ | refine scope_e ?_ | refine cut_awp ?_))
                    refine fragN ?_
                    refine cut_id ?_
                    refine ⟨_, (Option.some.inj hh), ?_⟩
                    first | exact ⟨_, _, _, _, _, _, rfl⟩ | (simp only [diptychlaw4_Cell.pv_eq, place_Spot.pv_eq, api_Attr.pv_eq, api_Node.pv_eq, diptychref4_Spot.pv_eq, pvL, List.map_cons, List.map_nil, List.map_append, rune1]; exact ⟨_, _, _, _, _, _, rfl⟩)
              exact key _ _ _ f3 _ _ _ _
            · rintro s ⟨t, hless, out_44, rfl, j_42, v_43, nx, g2, g5, g7, rfl⟩
              try dsimp only at hh
              (repeat (with_reducible first | refine then_n ?_ | refine then_r ?_ | refine then_e ?_ | refine block_n ?_ | refine block_r ?_ | refine exit_here ?_ | refine exit_on rfl ?_ | refine scope_n ?_ | refine scope_r ?_ | refine scope_e ?_))
              first | (refine cut_less hless ?_; try refine cut_awp ?_) | refine frag_less hless ?_
              refine awp_exit ?_; (repeat (with_reducible first | refine then_n ?_ | refine then_r ?_ | refine then_e ?_ | refine block_n ?_ | refine block_r ?_ | refine exit_here ?_ | refine exit_on rfl ?_ | refine scope_n ?_ | refine scope_r ?_ | refine scope_e ?_ | refine cut_awp ?_))
              refine awp_region fun K kk hK => ?_
              simp only [go_sem, ↓reduceIte, reduceCtorEq, Nat.reduceEqDiff, Nat.reduceAdd, Nat.reduceMul, Nat.reduceSub, Nat.reduceLT, Nat.reduceLeDiff, Nat.reducePow, Nat.reduceBEq, Nat.reduceBNe, Int.reduceNeg, Int.reduceBEq, Int.reduceBNe, Int.reduceAdd, Int.reduceSub, Int.reduceMul, Int.reduceLT, Int.reduceLE, Int.reduceToNat, Int.reduceEq, Int.reduceNe, List.take_length, take_map_len, runesOf_eq, runeBytes_map, an_diptychref4_Spots, nf_diptychref4_Spots, fp_diptychref4_Spots, ty3, ty9, ty23, ty27, ty28, ty29, ty31, ty36, ty48, ty58, diptychlaw4_Cell.pv_eq, place_Spot.pv_eq, api_Attr.pv_eq, api_Node.pv_eq, diptychref4_Spot.pv_eq, pvL, List.map_nil, hl0a, hl0b, hl0d, hl0w]
              refine hK _ _ fun nx => ?_; clear hK K; try clear kk
              (repeat (with_reducible first | refine then_n ?_ | refine then_r ?_ | refine then_e ?_ | refine block_n ?_ | refine block_r ?_ | refine exit_here ?_ | refine exit_on rfl ?_ | refine scope_n ?_ | refine scope_r ?_ | refine scope_e ?_ | refine cut_awp ?_))
              have ih' := ih (pre ++ [y_35]) (i_18 + 1) _ (by rw [hsplit]; simp) (by simp [hidx]) hh nx
              refine cut_id ?_
              first | exact ih' _ _ | (simp only [diptychlaw4_Cell.pv_eq, place_Spot.pv_eq, api_Attr.pv_eq, api_Node.pv_eq, diptychref4_Spot.pv_eq, pvL, List.map_cons, List.map_nil, List.map_append, rune1] at ih' ⊢; exact ih' _ _)
            · intro i s h; exact h.elim
            · intro s h; exact h.elim
          · rw [if_neg h30] at hh
            replace h30 := Bool.eq_false_iff.mpr h30
            refine awp_false (by first | exact congrArg PV.bool h30 | rfl) ?_
            refine awp_skip ?_; (repeat (with_reducible first | refine then_n ?_ | refine then_r ?_ | refine then_e ?_ | refine block_n ?_ | refine block_r ?_ | refine exit_here ?_ | refine exit_on rfl ?_ | refine scope_n ?_ | refine scope_r ?_ | refine scope_e ?_ | refine cut_awp ?_))
            obtain ⟨l_45, h37, hh⟩ := bind_ex hh
            obtain ⟨h37a, h37c⟩ := app_some h37
            have h37d := app_map (f := diptychref4_Spot.pv) h37c
            have h37e := app_len h37c
            try simp only [List.length_cons, List.length_nil, Nat.zero_add, Nat.reduceAdd] at h37a h37e
            try simp only [h37e] at h37a
            try simp only [List.map_cons, List.map_nil, List.nil_append, List.append_nil, List.cons_append, List.singleton_append, rune1, diptychlaw4_Cell.pv_eq, place_Spot.pv_eq, api_Attr.pv_eq, api_Node.pv_eq, diptychref4_Spot.pv_eq, pvL] at h37d
            refine awp_first fun K kk hK => ?_
            simp only [go_sem, ↓reduceIte, reduceCtorEq, Nat.reduceEqDiff, Nat.reduceAdd, Nat.reduceMul, Nat.reduceSub, Nat.reduceLT, Nat.reduceLeDiff, Nat.reducePow, Nat.reduceBEq, Nat.reduceBNe, Int.reduceNeg, Int.reduceBEq, Int.reduceBNe, Int.reduceAdd, Int.reduceSub, Int.reduceMul, Int.reduceLT, Int.reduceLE, Int.reduceToNat, Int.reduceEq, Int.reduceNe, List.take_length, take_map_len, runesOf_eq, runeBytes_map, an_diptychref4_Spots, nf_diptychref4_Spots, fp_diptychref4_Spots, ty3, ty9, ty23, ty27, ty28, ty29, ty31, ty36, ty48, ty58, diptychlaw4_Cell.pv_eq, place_Spot.pv_eq, api_Attr.pv_eq, api_Node.pv_eq, diptychref4_Spot.pv_eq, pvL, List.map_nil, h37a, h37d, h37e, hl0a, hl0b, hl0d, hl0w]
            (repeat (refine And.intro ?_ ?_; focus (first | assumption | (try simp only [List.length_append, List.length_cons, List.length_nil] at *; omega))))
            refine hK _ _ fun nx => ?_; clear hK K; try clear kk
            obtain ⟨l_46, h38, hh⟩ := bind_ex hh
            obtain ⟨h38a, h38c⟩ := app_some h38
            have h38d := app_map (f := (PV.int .i64)) h38c
            have h38e := app_len h38c
            try simp only [List.length_cons, List.length_nil, Nat.zero_add, Nat.reduceAdd] at h38a h38e
            try simp only [h38e] at h38a
            try simp only [List.map_cons, List.map_nil, List.nil_append, List.append_nil, List.cons_append, List.singleton_append, rune1, diptychlaw4_Cell.pv_eq, place_Spot.pv_eq, api_Attr.pv_eq, api_Node.pv_eq, diptychref4_Spot.pv_eq, pvL] at h38d
            obtain ⟨l_47, h39, hh⟩ := bind_ex hh
            obtain ⟨h39a, h39c⟩ := app_some h39
            have h39d := app_map (f := (PV.int .i64)) h39c
            have h39e := app_len h39c
            try simp only [List.length_cons, List.length_nil, Nat.zero_add, Nat.reduceAdd] at h39a h39e
            try simp only [h39e] at h39a
            try simp only [List.map_cons, List.map_nil, List.nil_append, List.append_nil, List.cons_append, List.singleton_append, rune1, diptychlaw4_Cell.pv_eq, place_Spot.pv_eq, api_Attr.pv_eq, api_Node.pv_eq, diptychref4_Spot.pv_eq, pvL] at h39d
            obtain ⟨spots_48, h40, hh⟩ := bind_ex hh
            obtain ⟨l_49, h41, hh⟩ := bind_ex hh
            obtain ⟨h41a, h41c⟩ := app_some h41
            have h41d := app_map (f := diptychref4_Spot.pv) h41c
            have h41e := app_len h41c
            try simp only [List.length_cons, List.length_nil, Nat.zero_add, Nat.reduceAdd] at h41a h41e
            try simp only [h41e] at h41a
            try simp only [List.map_cons, List.map_nil, List.nil_append, List.append_nil, List.cons_append, List.singleton_append, rune1, diptychlaw4_Cell.pv_eq, place_Spot.pv_eq, api_Attr.pv_eq, api_Node.pv_eq, diptychref4_Spot.pv_eq, pvL] at h41d
            refine awp_region fun K kk hK => ?_
            simp only [go_sem, ↓reduceIte, reduceCtorEq, Nat.reduceEqDiff, Nat.reduceAdd, Nat.reduceMul, Nat.reduceSub, Nat.reduceLT, Nat.reduceLeDiff, Nat.reducePow, Nat.reduceBEq, Nat.reduceBNe, Int.reduceNeg, Int.reduceBEq, Int.reduceBNe, Int.reduceAdd, Int.reduceSub, Int.reduceMul, Int.reduceLT, Int.reduceLE, Int.reduceToNat, Int.reduceEq, Int.reduceNe, List.take_length, take_map_len, runesOf_eq, runeBytes_map, an_diptychref4_Spots, nf_diptychref4_Spots, fp_diptychref4_Spots, ty3, ty9, ty23, ty27, ty28, ty29, ty31, ty36, ty48, ty58, diptychlaw4_Cell.pv_eq, place_Spot.pv_eq, api_Attr.pv_eq, api_Node.pv_eq, diptychref4_Spot.pv_eq, pvL, List.map_nil, h38a, h38d, h38e, h39a, h39d, h39e, h41a, h41d, h41e, hl0a, hl0b, hl0d, hl0w]
            (repeat (refine And.intro ?_ ?_; focus (first | assumption | (try simp only [List.length_append, List.length_cons, List.length_nil] at *; omega))))
            refine step_call2 (ih_diptychref4_Spots _ _ _ h40).list (by try simp only [go_sem, ↓reduceIte, reduceCtorEq, Nat.reduceEqDiff, Nat.reduceAdd, Nat.reduceMul, Nat.reduceSub, Nat.reduceLT, Nat.reduceLeDiff, Nat.reducePow, Nat.reduceBEq, Nat.reduceBNe, Int.reduceNeg, Int.reduceBEq, Int.reduceBNe, Int.reduceAdd, Int.reduceSub, Int.reduceMul, Int.reduceLT, Int.reduceLE, Int.reduceToNat, Int.reduceEq, Int.reduceNe, List.take_length, take_map_len, runesOf_eq, runeBytes_map, an_diptychref4_Spots, nf_diptychref4_Spots, fp_diptychref4_Spots, ty3, ty9, ty23, ty27, ty28, ty29, ty31, ty36, ty48, ty58, diptychlaw4_Cell.pv_eq, place_Spot.pv_eq, api_Attr.pv_eq, api_Node.pv_eq, diptychref4_Spot.pv_eq, pvL, List.map_nil, h38a, h38d, h38e, h39a, h39d, h39e, h41a, h41d, h41e, hl0a, hl0b, hl0d, hl0w]; (repeat (first | exact WkL.refl _ | exact Wk.refl _ | exact Wk.nil _ | refine WkL.cons _ _ _ _ ?_ ?_ | exact WkL.nil | refine Wk.agg _ _ ?_ | refine Wk.tup _ _ ?_))) (by rfl) (by rfl) ?_
            simp only [go_sem, ↓reduceIte, reduceCtorEq, Nat.reduceEqDiff, Nat.reduceAdd, Nat.reduceMul, Nat.reduceSub, Nat.reduceLT, Nat.reduceLeDiff, Nat.reducePow, Nat.reduceBEq, Nat.reduceBNe, Int.reduceNeg, Int.reduceBEq, Int.reduceBNe, Int.reduceAdd, Int.reduceSub, Int.reduceMul, Int.reduceLT, Int.reduceLE, Int.reduceToNat, Int.reduceEq, Int.reduceNe, List.take_length, take_map_len, runesOf_eq, runeBytes_map, an_diptychref4_Spots, nf_diptychref4_Spots, fp_diptychref4_Spots, ty3, ty9, ty23, ty27, ty28, ty29, ty31, ty36, ty48, ty58, diptychlaw4_Cell.pv_eq, place_Spot.pv_eq, api_Attr.pv_eq, api_Node.pv_eq, diptychref4_Spot.pv_eq, pvL, List.map_nil, h38a, h38d, h38e, h39a, h39d, h39e, h41a, h41d, h41e, hl0a, hl0b, hl0d, hl0w]
            (repeat (refine And.intro ?_ ?_; focus (first | assumption | (try simp only [List.length_append, List.length_cons, List.length_nil] at *; omega))))
            refine hK _ _ fun nx => ?_; clear hK K; try clear kk
            (repeat (with_reducible first | refine then_n ?_ | refine then_r ?_ | refine then_e ?_ | refine block_n ?_ | refine block_r ?_ | refine exit_here ?_ | refine exit_on rfl ?_ | refine scope_n ?_ | refine scope_r ?_ | refine scope_e ?_ | refine cut_awp ?_))
            refine awp_region fun K kk hK => ?_
            simp only [go_sem, ↓reduceIte, reduceCtorEq, Nat.reduceEqDiff, Nat.reduceAdd, Nat.reduceMul, Nat.reduceSub, Nat.reduceLT, Nat.reduceLeDiff, Nat.reducePow, Nat.reduceBEq, Nat.reduceBNe, Int.reduceNeg, Int.reduceBEq, Int.reduceBNe, Int.reduceAdd, Int.reduceSub, Int.reduceMul, Int.reduceLT, Int.reduceLE, Int.reduceToNat, Int.reduceEq, Int.reduceNe, List.take_length, take_map_len, runesOf_eq, runeBytes_map, an_diptychref4_Spots, nf_diptychref4_Spots, fp_diptychref4_Spots, ty3, ty9, ty23, ty27, ty28, ty29, ty31, ty36, ty48, ty58, diptychlaw4_Cell.pv_eq, place_Spot.pv_eq, api_Attr.pv_eq, api_Node.pv_eq, diptychref4_Spot.pv_eq, pvL, List.map_nil, hl0a, hl0b, hl0d, hl0w]
            refine hK _ _ fun nx => ?_; clear hK K; try clear kk
            (repeat (with_reducible first | refine then_n ?_ | refine then_r ?_ | refine then_e ?_ | refine block_n ?_ | refine block_r ?_ | refine exit_here ?_ | refine exit_on rfl ?_ | refine scope_n ?_ | refine scope_r ?_ | refine scope_e ?_ | refine cut_awp ?_))
            have ih' := ih (pre ++ [y_35]) (i_18 + 1) _ (by rw [hsplit]; simp) (by simp [hidx]) hh nx
            refine cut_id ?_
            first | exact ih' _ _ | (simp only [diptychlaw4_Cell.pv_eq, place_Spot.pv_eq, api_Attr.pv_eq, api_Node.pv_eq, diptychref4_Spot.pv_eq, pvL, List.map_cons, List.map_nil, List.map_append, rune1, h37e, h38e, h38d, h39e, h41e] at ih' ⊢; exact ih' _ _)
      exact key n_1.Kids [] _ _ rfl rfl f0 _ _ _
    · rintro s ⟨t, hless, out_52, rfl, i_50, v_51, nx, g2, g5, rfl⟩
      try dsimp only at hh
      (repeat (with_reducible first | refine then_n ?_ | refine then_r ?_ | refine then_e ?_ | refine block_n ?_ | refine block_r ?_ | refine exit_here ?_ | refine exit_on rfl ?_ | refine scope_n ?_ | refine scope_r ?_ | refine scope_e ?_))
      first | (refine cut_less hless ?_; try refine cut_awp ?_) | refine frag_less hless ?_
      obtain ⟨l_53, h42, hh⟩ := bind_ex hh
      obtain ⟨h42a, h42c⟩ := app_some h42
      have h42d := app_map (f := diptychref4_Spot.pv) h42c
      have h42e := app_len h42c
      try simp only [List.length_cons, List.length_nil, Nat.zero_add, Nat.reduceAdd] at h42a h42e
      try simp only [h42e] at h42a
      try simp only [List.map_cons, List.map_nil, List.nil_append, List.append_nil, List.cons_append, List.singleton_append, rune1, diptychlaw4_Cell.pv_eq, place_Spot.pv_eq, api_Attr.pv_eq, api_Node.pv_eq, diptychref4_Spot.pv_eq, pvL] at h42d
      refine awp_first fun K kk hK => ?_
      simp only [go_sem, ↓reduceIte, reduceCtorEq, Nat.reduceEqDiff, Nat.reduceAdd, Nat.reduceMul, Nat.reduceSub, Nat.reduceLT, Nat.reduceLeDiff, Nat.reducePow, Nat.reduceBEq, Nat.reduceBNe, Int.reduceNeg, Int.reduceBEq, Int.reduceBNe, Int.reduceAdd, Int.reduceSub, Int.reduceMul, Int.reduceLT, Int.reduceLE, Int.reduceToNat, Int.reduceEq, Int.reduceNe, List.take_length, take_map_len, runesOf_eq, runeBytes_map, an_diptychref4_Spots, nf_diptychref4_Spots, fp_diptychref4_Spots, ty3, ty9, ty23, ty27, ty28, ty29, ty31, ty36, ty48, ty58, diptychlaw4_Cell.pv_eq, place_Spot.pv_eq, api_Attr.pv_eq, api_Node.pv_eq, diptychref4_Spot.pv_eq, pvL, List.map_nil, h42a, h42d, h42e]
      (repeat (refine And.intro ?_ ?_; focus (first | assumption | (try simp only [List.length_append, List.length_cons, List.length_nil] at *; omega))))
      refine hK _ _ fun nx => ?_; clear hK K; try clear kk
      refine awp_ret ?_; (repeat (with_reducible first | refine then_n ?_ | refine then_r ?_ | refine then_e ?_ | refine block_n ?_ | refine block_r ?_ | refine exit_here ?_ | refine exit_on rfl ?_ | refine scope_n ?_ | refine scope_r ?_ | refine scope_e ?_ | refine cut_awp ?_))
      obtain hR := Option.some.inj hh
      subst hR
      exact ret_own (by rfl) (by rfl) (by rfl) (by simp only [List.length_map, List.length_cons, List.length_nil, Nat.zero_add, Nat.reduceAdd, h42e]) (by first | rfl | (simp only [diptychlaw4_Cell.pv_eq, place_Spot.pv_eq, api_Attr.pv_eq, api_Node.pv_eq, diptychref4_Spot.pv_eq, pvL, List.map_cons, List.map_nil, List.map_append, rune1, h42e]; done) | (simp only [diptychlaw4_Cell.pv_eq, place_Spot.pv_eq, api_Attr.pv_eq, api_Node.pv_eq, diptychref4_Spot.pv_eq, pvL, List.map_cons, List.map_nil, List.map_append, rune1, h42e]; rfl))
    · intro i s h; exact h.elim
    · intro s h; exact h.elim
theorem diptychref4_Spots_ok (n_1 : api_Node) (path_2 : (List Int)) (R : (List diptychref4_Spot)) (hh : diptychref4_Spots n_1 path_2 = some R) : PC Try.prog 15 [.agg [.str n_1.Kind, .str n_1.Text, .list 1 (n_1.Marks.map PV.str), .list 2 (n_1.Attrs.map api_Attr.pv), .list 5 (n_1.Kids.map api_Node.pv)], .list 1 (path_2.map (PV.int .i64))] (.own 3 (R.map diptychref4_Spot.pv)) := by
  rw [diptychref4_Spots] at hh
  obtain ⟨kr, hh⟩ := lim_some hh
  exact (diptychref4_Spots_grp kr) _ _ _ hh
theorem diptychref4_Resolve_ok (n_1 : api_Node) (pos_2 : Int) (R : (diptychref4_Spot × Int)) (hh : diptychref4_Resolve n_1 pos_2 = some R) : PC Try.prog 7 [.agg [.str n_1.Kind, .str n_1.Text, .list 1 (n_1.Marks.map PV.str), .list 2 (n_1.Attrs.map api_Attr.pv), .list 5 (n_1.Kids.map api_Node.pv)], .int .i64 pos_2] (.tup [.agg [.list 1 (R.1.Path.map (PV.int .i64)), .int .i64 R.1.Index, .int .i64 R.1.Offset], .int .i64 R.2]) := by
  rw [diptychref4_Resolve] at hh
  refine start_diptychref4_Resolve rfl ?_
  refine awp_first fun K kk hK => ?_
  simp only [go_sem, ↓reduceIte, reduceCtorEq, Nat.reduceEqDiff, Nat.reduceAdd, Nat.reduceMul, Nat.reduceSub, Nat.reduceLT, Nat.reduceLeDiff, Nat.reducePow, Nat.reduceBEq, Nat.reduceBNe, Int.reduceNeg, Int.reduceBEq, Int.reduceBNe, Int.reduceAdd, Int.reduceSub, Int.reduceMul, Int.reduceLT, Int.reduceLE, Int.reduceToNat, Int.reduceEq, Int.reduceNe, List.take_length, take_map_len, runesOf_eq, runeBytes_map, an_diptychref4_Resolve, nf_diptychref4_Resolve, fp_diptychref4_Resolve, ty3, ty9, ty23, ty27, ty28, ty29, ty31, ty36, ty48, ty58, diptychlaw4_Cell.pv_eq, place_Spot.pv_eq, api_Attr.pv_eq, api_Node.pv_eq, diptychref4_Spot.pv_eq, pvL, List.map_nil]
  refine hK _ _ fun nx => ?_; clear hK K; try clear kk
  refine awp_seq ?_
  refine awp_first fun K kk hK => ?_
  simp only [go_sem, ↓reduceIte, reduceCtorEq, Nat.reduceEqDiff, Nat.reduceAdd, Nat.reduceMul, Nat.reduceSub, Nat.reduceLT, Nat.reduceLeDiff, Nat.reducePow, Nat.reduceBEq, Nat.reduceBNe, Int.reduceNeg, Int.reduceBEq, Int.reduceBNe, Int.reduceAdd, Int.reduceSub, Int.reduceMul, Int.reduceLT, Int.reduceLE, Int.reduceToNat, Int.reduceEq, Int.reduceNe, List.take_length, take_map_len, runesOf_eq, runeBytes_map, an_diptychref4_Resolve, nf_diptychref4_Resolve, fp_diptychref4_Resolve, ty3, ty9, ty23, ty27, ty28, ty29, ty31, ty36, ty48, ty58, diptychlaw4_Cell.pv_eq, place_Spot.pv_eq, api_Attr.pv_eq, api_Node.pv_eq, diptychref4_Spot.pv_eq, pvL, List.map_nil]
  refine hK _ _ fun nx => ?_; clear hK K; try clear kk
  by_cases h1 : (n_1.Kind == ([116, 101, 120, 116] : Str)) = true
  · rw [if_pos h1] at hh
    refine awp_true (by first | exact congrArg PV.bool h1 | rfl) ?_
    refine awp_first fun K kk hK => ?_
    simp only [go_sem, ↓reduceIte, reduceCtorEq, Nat.reduceEqDiff, Nat.reduceAdd, Nat.reduceMul, Nat.reduceSub, Nat.reduceLT, Nat.reduceLeDiff, Nat.reducePow, Nat.reduceBEq, Nat.reduceBNe, Int.reduceNeg, Int.reduceBEq, Int.reduceBNe, Int.reduceAdd, Int.reduceSub, Int.reduceMul, Int.reduceLT, Int.reduceLE, Int.reduceToNat, Int.reduceEq, Int.reduceNe, List.take_length, take_map_len, runesOf_eq, runeBytes_map, an_diptychref4_Resolve, nf_diptychref4_Resolve, fp_diptychref4_Resolve, ty3, ty9, ty23, ty27, ty28, ty29, ty31, ty36, ty48, ty58, diptychlaw4_Cell.pv_eq, place_Spot.pv_eq, api_Attr.pv_eq, api_Node.pv_eq, diptychref4_Spot.pv_eq, pvL, List.map_nil]
    refine hK _ _ fun nx => ?_; clear hK K; try clear kk
    refine awp_ret ?_; (repeat (with_reducible first | refine then_n ?_ | refine then_r ?_ | refine then_e ?_ | refine block_n ?_ | refine block_r ?_ | refine exit_here ?_ | refine exit_on rfl ?_ | refine scope_n ?_ | refine scope_r ?_ | refine scope_e ?_ | refine cut_awp ?_))
    obtain hR := Option.some.inj hh
    subst hR
    refine ret_pure2 ?_ (by rfl)
    simp only [go_sem, ↓reduceIte, reduceCtorEq, Nat.reduceEqDiff, Nat.reduceAdd, Nat.reduceMul, Nat.reduceSub, Nat.reduceLT, Nat.reduceLeDiff, Nat.reducePow, Nat.reduceBEq, Nat.reduceBNe, Int.reduceNeg, Int.reduceBEq, Int.reduceBNe, Int.reduceAdd, Int.reduceSub, Int.reduceMul, Int.reduceLT, Int.reduceLE, Int.reduceToNat, Int.reduceEq, Int.reduceNe, List.take_length, take_map_len, runesOf_eq, runeBytes_map, an_diptychref4_Resolve, nf_diptychref4_Resolve, fp_diptychref4_Resolve, ty3, ty9, ty23, ty27, ty28, ty29, ty31, ty36, ty48, ty58, diptychlaw4_Cell.pv_eq, place_Spot.pv_eq, api_Attr.pv_eq, api_Node.pv_eq, diptychref4_Spot.pv_eq, pvL, List.map_nil, rvsRes, rvRes, cellRes, tupOf, pur2, List.map_cons, List.map_append, List.head?_cons]
    (repeat (first | exact Wk.refl _ | exact WkL.refl _ | exact Wk.nil _ | refine Wk.agg _ _ ?_ | refine Wk.tup _ _ ?_ | refine WkL.cons _ _ _ _ ?_ ?_ | exact WkL.nil))
  · rw [if_neg h1] at hh
    replace h1 := Bool.eq_false_iff.mpr h1
    refine awp_false (by first | exact congrArg PV.bool h1 | rfl) ?_
    refine awp_skip ?_; (repeat (with_reducible first | refine then_n ?_ | refine then_r ?_ | refine then_e ?_ | refine block_n ?_ | refine block_r ?_ | refine exit_here ?_ | refine exit_on rfl ?_ | refine scope_n ?_ | refine scope_r ?_ | refine scope_e ?_ | refine cut_awp ?_))
    obtain ⟨spots_3, h2, hh⟩ := bind_ex hh
    refine awp_first fun K kk hK => ?_
    simp only [go_sem, ↓reduceIte, reduceCtorEq, Nat.reduceEqDiff, Nat.reduceAdd, Nat.reduceMul, Nat.reduceSub, Nat.reduceLT, Nat.reduceLeDiff, Nat.reducePow, Nat.reduceBEq, Nat.reduceBNe, Int.reduceNeg, Int.reduceBEq, Int.reduceBNe, Int.reduceAdd, Int.reduceSub, Int.reduceMul, Int.reduceLT, Int.reduceLE, Int.reduceToNat, Int.reduceEq, Int.reduceNe, List.take_length, take_map_len, runesOf_eq, runeBytes_map, an_diptychref4_Resolve, nf_diptychref4_Resolve, fp_diptychref4_Resolve, ty3, ty9, ty23, ty27, ty28, ty29, ty31, ty36, ty48, ty58, diptychlaw4_Cell.pv_eq, place_Spot.pv_eq, api_Attr.pv_eq, api_Node.pv_eq, diptychref4_Spot.pv_eq, pvL, List.map_nil]
    refine step_call2 (diptychref4_Spots_ok _ _ _ h2).list (by try simp only [go_sem, ↓reduceIte, reduceCtorEq, Nat.reduceEqDiff, Nat.reduceAdd, Nat.reduceMul, Nat.reduceSub, Nat.reduceLT, Nat.reduceLeDiff, Nat.reducePow, Nat.reduceBEq, Nat.reduceBNe, Int.reduceNeg, Int.reduceBEq, Int.reduceBNe, Int.reduceAdd, Int.reduceSub, Int.reduceMul, Int.reduceLT, Int.reduceLE, Int.reduceToNat, Int.reduceEq, Int.reduceNe, List.take_length, take_map_len, runesOf_eq, runeBytes_map, an_diptychref4_Resolve, nf_diptychref4_Resolve, fp_diptychref4_Resolve, ty3, ty9, ty23, ty27, ty28, ty29, ty31, ty36, ty48, ty58, diptychlaw4_Cell.pv_eq, place_Spot.pv_eq, api_Attr.pv_eq, api_Node.pv_eq, diptychref4_Spot.pv_eq, pvL, List.map_nil]; (repeat (first | exact WkL.refl _ | exact Wk.refl _ | exact Wk.nil _ | refine WkL.cons _ _ _ _ ?_ ?_ | exact WkL.nil | refine Wk.agg _ _ ?_ | refine Wk.tup _ _ ?_))) (by rfl) (by rfl) ?_
    simp only [go_sem, ↓reduceIte, reduceCtorEq, Nat.reduceEqDiff, Nat.reduceAdd, Nat.reduceMul, Nat.reduceSub, Nat.reduceLT, Nat.reduceLeDiff, Nat.reducePow, Nat.reduceBEq, Nat.reduceBNe, Int.reduceNeg, Int.reduceBEq, Int.reduceBNe, Int.reduceAdd, Int.reduceSub, Int.reduceMul, Int.reduceLT, Int.reduceLE, Int.reduceToNat, Int.reduceEq, Int.reduceNe, List.take_length, take_map_len, runesOf_eq, runeBytes_map, an_diptychref4_Resolve, nf_diptychref4_Resolve, fp_diptychref4_Resolve, ty3, ty9, ty23, ty27, ty28, ty29, ty31, ty36, ty48, ty58, diptychlaw4_Cell.pv_eq, place_Spot.pv_eq, api_Attr.pv_eq, api_Node.pv_eq, diptychref4_Spot.pv_eq, pvL, List.map_nil]
    refine hK _ _ fun nx => ?_; clear hK K; try clear kk
    refine awp_seq ?_
    by_cases h3 : (decide (pos_2 < (0 : Int))) = true
    · rw [if_pos h3] at hh
      refine awp_first fun K kk hK => ?_
      simp only [go_sem, ↓reduceIte, reduceCtorEq, Nat.reduceEqDiff, Nat.reduceAdd, Nat.reduceMul, Nat.reduceSub, Nat.reduceLT, Nat.reduceLeDiff, Nat.reducePow, Nat.reduceBEq, Nat.reduceBNe, Int.reduceNeg, Int.reduceBEq, Int.reduceBNe, Int.reduceAdd, Int.reduceSub, Int.reduceMul, Int.reduceLT, Int.reduceLE, Int.reduceToNat, Int.reduceEq, Int.reduceNe, List.take_length, take_map_len, runesOf_eq, runeBytes_map, an_diptychref4_Resolve, nf_diptychref4_Resolve, fp_diptychref4_Resolve, ty3, ty9, ty23, ty27, ty28, ty29, ty31, ty36, ty48, ty58, diptychlaw4_Cell.pv_eq, place_Spot.pv_eq, api_Attr.pv_eq, api_Node.pv_eq, diptychref4_Spot.pv_eq, pvL, List.map_nil, h3, of_decide_eq_true h3, h3, of_decide_eq_true h3]
      (repeat (refine And.intro ?_ ?_; focus (first | assumption | (try simp only [List.length_append, List.length_cons, List.length_nil] at *; omega))))
      refine hK _ _ fun nx => ?_; clear hK K; try clear kk
      refine awp_true rfl ?_
      refine awp_first fun K kk hK => ?_
      simp only [go_sem, ↓reduceIte, reduceCtorEq, Nat.reduceEqDiff, Nat.reduceAdd, Nat.reduceMul, Nat.reduceSub, Nat.reduceLT, Nat.reduceLeDiff, Nat.reducePow, Nat.reduceBEq, Nat.reduceBNe, Int.reduceNeg, Int.reduceBEq, Int.reduceBNe, Int.reduceAdd, Int.reduceSub, Int.reduceMul, Int.reduceLT, Int.reduceLE, Int.reduceToNat, Int.reduceEq, Int.reduceNe, List.take_length, take_map_len, runesOf_eq, runeBytes_map, an_diptychref4_Resolve, nf_diptychref4_Resolve, fp_diptychref4_Resolve, ty3, ty9, ty23, ty27, ty28, ty29, ty31, ty36, ty48, ty58, diptychlaw4_Cell.pv_eq, place_Spot.pv_eq, api_Attr.pv_eq, api_Node.pv_eq, diptychref4_Spot.pv_eq, pvL, List.map_nil]
      refine hK _ _ fun nx => ?_; clear hK K; try clear kk
      refine awp_ret ?_; (repeat (with_reducible first | refine then_n ?_ | refine then_r ?_ | refine then_e ?_ | refine block_n ?_ | refine block_r ?_ | refine exit_here ?_ | refine exit_on rfl ?_ | refine scope_n ?_ | refine scope_r ?_ | refine scope_e ?_ | refine cut_awp ?_))
      obtain hR := Option.some.inj hh
      subst hR
      refine ret_pure2 ?_ (by rfl)
      simp only [go_sem, ↓reduceIte, reduceCtorEq, Nat.reduceEqDiff, Nat.reduceAdd, Nat.reduceMul, Nat.reduceSub, Nat.reduceLT, Nat.reduceLeDiff, Nat.reducePow, Nat.reduceBEq, Nat.reduceBNe, Int.reduceNeg, Int.reduceBEq, Int.reduceBNe, Int.reduceAdd, Int.reduceSub, Int.reduceMul, Int.reduceLT, Int.reduceLE, Int.reduceToNat, Int.reduceEq, Int.reduceNe, List.take_length, take_map_len, runesOf_eq, runeBytes_map, an_diptychref4_Resolve, nf_diptychref4_Resolve, fp_diptychref4_Resolve, ty3, ty9, ty23, ty27, ty28, ty29, ty31, ty36, ty48, ty58, diptychlaw4_Cell.pv_eq, place_Spot.pv_eq, api_Attr.pv_eq, api_Node.pv_eq, diptychref4_Spot.pv_eq, pvL, List.map_nil, rvsRes, rvRes, cellRes, tupOf, pur2, List.map_cons, List.map_append, List.head?_cons]
      (repeat (first | exact Wk.refl _ | exact WkL.refl _ | exact Wk.nil _ | refine Wk.agg _ _ ?_ | refine Wk.tup _ _ ?_ | refine WkL.cons _ _ _ _ ?_ ?_ | exact WkL.nil))
    · rw [if_neg h3] at hh
      replace h3 := Bool.eq_false_iff.mpr h3
      refine awp_first fun K kk hK => ?_
      simp only [go_sem, ↓reduceIte, reduceCtorEq, Nat.reduceEqDiff, Nat.reduceAdd, Nat.reduceMul, Nat.reduceSub, Nat.reduceLT, Nat.reduceLeDiff, Nat.reducePow, Nat.reduceBEq, Nat.reduceBNe, Int.reduceNeg, Int.reduceBEq, Int.reduceBNe, Int.reduceAdd, Int.reduceSub, Int.reduceMul, Int.reduceLT, Int.reduceLE, Int.reduceToNat, Int.reduceEq, Int.reduceNe, List.take_length, take_map_len, runesOf_eq, runeBytes_map, an_diptychref4_Resolve, nf_diptychref4_Resolve, fp_diptychref4_Resolve, ty3, ty9, ty23, ty27, ty28, ty29, ty31, ty36, ty48, ty58, diptychlaw4_Cell.pv_eq, place_Spot.pv_eq, api_Attr.pv_eq, api_Node.pv_eq, diptychref4_Spot.pv_eq, pvL, List.map_nil, h3, of_decide_eq_false h3, h3, of_decide_eq_false h3]
      (repeat (refine And.intro ?_ ?_; focus (first | assumption | (try simp only [List.length_append, List.length_cons, List.length_nil] at *; omega))))
      refine hK _ _ fun nx => ?_; clear hK K; try clear kk
      by_cases h4 : (decide (pos_2 ≥ (spots_3.length : Int))) = true
      · rw [if_pos h4] at hh
        refine awp_true (by first | exact congrArg PV.bool h4 | rfl) ?_
        refine awp_first fun K kk hK => ?_
        simp only [go_sem, ↓reduceIte, reduceCtorEq, Nat.reduceEqDiff, Nat.reduceAdd, Nat.reduceMul, Nat.reduceSub, Nat.reduceLT, Nat.reduceLeDiff, Nat.reducePow, Nat.reduceBEq, Nat.reduceBNe, Int.reduceNeg, Int.reduceBEq, Int.reduceBNe, Int.reduceAdd, Int.reduceSub, Int.reduceMul, Int.reduceLT, Int.reduceLE, Int.reduceToNat, Int.reduceEq, Int.reduceNe, List.take_length, take_map_len, runesOf_eq, runeBytes_map, an_diptychref4_Resolve, nf_diptychref4_Resolve, fp_diptychref4_Resolve, ty3, ty9, ty23, ty27, ty28, ty29, ty31, ty36, ty48, ty58, diptychlaw4_Cell.pv_eq, place_Spot.pv_eq, api_Attr.pv_eq, api_Node.pv_eq, diptychref4_Spot.pv_eq, pvL, List.map_nil]
        refine hK _ _ fun nx => ?_; clear hK K; try clear kk
        refine awp_ret ?_; (repeat (with_reducible first | refine then_n ?_ | refine then_r ?_ | refine then_e ?_ | refine block_n ?_ | refine block_r ?_ | refine exit_here ?_ | refine exit_on rfl ?_ | refine scope_n ?_ | refine scope_r ?_ | refine scope_e ?_ | refine cut_awp ?_))
        obtain hR := Option.some.inj hh
        subst hR
        refine ret_pure2 ?_ (by rfl)
        simp only [go_sem, ↓reduceIte, reduceCtorEq, Nat.reduceEqDiff, Nat.reduceAdd, Nat.reduceMul, Nat.reduceSub, Nat.reduceLT, Nat.reduceLeDiff, Nat.reducePow, Nat.reduceBEq, Nat.reduceBNe, Int.reduceNeg, Int.reduceBEq, Int.reduceBNe, Int.reduceAdd, Int.reduceSub, Int.reduceMul, Int.reduceLT, Int.reduceLE, Int.reduceToNat, Int.reduceEq, Int.reduceNe, List.take_length, take_map_len, runesOf_eq, runeBytes_map, an_diptychref4_Resolve, nf_diptychref4_Resolve, fp_diptychref4_Resolve, ty3, ty9, ty23, ty27, ty28, ty29, ty31, ty36, ty48, ty58, diptychlaw4_Cell.pv_eq, place_Spot.pv_eq, api_Attr.pv_eq, api_Node.pv_eq, diptychref4_Spot.pv_eq, pvL, List.map_nil, rvsRes, rvRes, cellRes, tupOf, pur2, List.map_cons, List.map_append, List.head?_cons]
        (repeat (first | exact Wk.refl _ | exact WkL.refl _ | exact Wk.nil _ | refine Wk.agg _ _ ?_ | refine Wk.tup _ _ ?_ | refine WkL.cons _ _ _ _ ?_ ?_ | exact WkL.nil))
      · rw [if_neg h4] at hh
        replace h4 := Bool.eq_false_iff.mpr h4
        refine awp_false (by first | exact congrArg PV.bool h4 | rfl) ?_
        refine awp_skip ?_; (repeat (with_reducible first | refine then_n ?_ | refine then_r ?_ | refine then_e ?_ | refine block_n ?_ | refine block_r ?_ | refine exit_here ?_ | refine exit_on rfl ?_ | refine scope_n ?_ | refine scope_r ?_ | refine scope_e ?_ | refine cut_awp ?_))
        obtain ⟨x_4, h5, hh⟩ := bind_ex hh
        obtain ⟨h5a, h5b, h5c⟩ := rd_some h5
        have h5d := rd_get (f := diptychref4_Spot.pv) h5c
        have h5f := rd_more (f := diptychref4_Spot.pv) h5c
        try simp only [Int.toNat_natCast, Int.reduceToNat] at h5d h5f
        refine awp_first fun K kk hK => ?_
        simp only [go_sem, ↓reduceIte, reduceCtorEq, Nat.reduceEqDiff, Nat.reduceAdd, Nat.reduceMul, Nat.reduceSub, Nat.reduceLT, Nat.reduceLeDiff, Nat.reducePow, Nat.reduceBEq, Nat.reduceBNe, Int.reduceNeg, Int.reduceBEq, Int.reduceBNe, Int.reduceAdd, Int.reduceSub, Int.reduceMul, Int.reduceLT, Int.reduceLE, Int.reduceToNat, Int.reduceEq, Int.reduceNe, List.take_length, take_map_len, runesOf_eq, runeBytes_map, an_diptychref4_Resolve, nf_diptychref4_Resolve, fp_diptychref4_Resolve, ty3, ty9, ty23, ty27, ty28, ty29, ty31, ty36, ty48, ty58, diptychlaw4_Cell.pv_eq, place_Spot.pv_eq, api_Attr.pv_eq, api_Node.pv_eq, diptychref4_Spot.pv_eq, pvL, List.map_nil, h5a, h5b, h5d, h5f.1, h5f.2]
        (repeat (refine And.intro ?_ ?_; focus (first | assumption | (try simp only [List.length_append, List.length_cons, List.length_nil] at *; omega))))
        refine hK _ _ fun nx => ?_; clear hK K; try clear kk
        refine awp_ret ?_; (repeat (with_reducible first | refine then_n ?_ | refine then_r ?_ | refine then_e ?_ | refine block_n ?_ | refine block_r ?_ | refine exit_here ?_ | refine exit_on rfl ?_ | refine scope_n ?_ | refine scope_r ?_ | refine scope_e ?_ | refine cut_awp ?_))
        obtain hR := Option.some.inj hh
        subst hR
        refine ret_pure2 ?_ (by rfl)
        simp only [go_sem, ↓reduceIte, reduceCtorEq, Nat.reduceEqDiff, Nat.reduceAdd, Nat.reduceMul, Nat.reduceSub, Nat.reduceLT, Nat.reduceLeDiff, Nat.reducePow, Nat.reduceBEq, Nat.reduceBNe, Int.reduceNeg, Int.reduceBEq, Int.reduceBNe, Int.reduceAdd, Int.reduceSub, Int.reduceMul, Int.reduceLT, Int.reduceLE, Int.reduceToNat, Int.reduceEq, Int.reduceNe, List.take_length, take_map_len, runesOf_eq, runeBytes_map, an_diptychref4_Resolve, nf_diptychref4_Resolve, fp_diptychref4_Resolve, ty3, ty9, ty23, ty27, ty28, ty29, ty31, ty36, ty48, ty58, diptychlaw4_Cell.pv_eq, place_Spot.pv_eq, api_Attr.pv_eq, api_Node.pv_eq, diptychref4_Spot.pv_eq, pvL, List.map_nil, rvsRes, rvRes, cellRes, tupOf, pur2, List.map_cons, List.map_append, List.head?_cons]
        (repeat (first | exact Wk.refl _ | exact WkL.refl _ | exact Wk.nil _ | refine Wk.agg _ _ ?_ | refine Wk.tup _ _ ?_ | refine WkL.cons _ _ _ _ ?_ ?_ | exact WkL.nil))

end Go.Proofs.Ytacmddgliagpcaa
