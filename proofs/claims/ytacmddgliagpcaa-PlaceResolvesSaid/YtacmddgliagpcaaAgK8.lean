/- What the functions answer, the program answers (8). -/
import Derived.Test.YtacmddgliagpcaaAgC
import Derived.Test.YtacmddgliagpcaaAgF
import Derived.Test.YtacmddgliagpcaaAgK1
namespace Go.Proofs.Ytacmddgliagpcaa
set_option linter.unusedSimpArgs false
set_option linter.unusedVariables false
open Go
set_option maxRecDepth 100000

theorem place_Inner_ok (n_1 : api_Node) (path_2 : (List Int)) (R : (api_Node × Int)) (hh : place_Inner n_1 path_2 = some R) : PC Try.prog 17 [.agg [.str n_1.Kind, .str n_1.Text, .list 1 (n_1.Marks.map PV.str), .list 2 (n_1.Attrs.map api_Attr.pv), .list 5 (n_1.Kids.map api_Node.pv)], .list 1 (path_2.map (PV.int .i64))] (.tup [.agg [.str R.1.Kind, .str R.1.Text, .list 1 (R.1.Marks.map PV.str), .list 2 (R.1.Attrs.map api_Attr.pv), .list 5 (R.1.Kids.map api_Node.pv)], .int .i64 R.2]) := by
  rw [place_Inner] at hh
  refine start_place_Inner rfl ?_
  refine awp_first fun K kk hK => ?_
  simp only [go_sem, ↓reduceIte, reduceCtorEq, Nat.reduceEqDiff, Nat.reduceAdd, Nat.reduceMul, Nat.reduceSub, Nat.reduceLT, Nat.reduceLeDiff, Nat.reducePow, Nat.reduceBEq, Nat.reduceBNe, Int.reduceNeg, Int.reduceBEq, Int.reduceBNe, Int.reduceAdd, Int.reduceSub, Int.reduceMul, Int.reduceLT, Int.reduceLE, Int.reduceToNat, Int.reduceEq, Int.reduceNe, List.take_length, take_map_len, runesOf_eq, runeBytes_map, an_place_Inner, nf_place_Inner, fp_place_Inner, ty3, ty9, ty23, ty27, ty28, ty29, ty31, ty58, diptychlaw4_Cell.pv_eq, place_Spot.pv_eq, api_Attr.pv_eq, api_Node.pv_eq, diptychref4_Spot.pv_eq, pvL, List.map_nil]
  refine hK _ _ fun nx => ?_; clear hK K; try clear kk
  refine awp_seq ?_
  refine awp_first fun K kk hK => ?_
  simp only [go_sem, ↓reduceIte, reduceCtorEq, Nat.reduceEqDiff, Nat.reduceAdd, Nat.reduceMul, Nat.reduceSub, Nat.reduceLT, Nat.reduceLeDiff, Nat.reducePow, Nat.reduceBEq, Nat.reduceBNe, Int.reduceNeg, Int.reduceBEq, Int.reduceBNe, Int.reduceAdd, Int.reduceSub, Int.reduceMul, Int.reduceLT, Int.reduceLE, Int.reduceToNat, Int.reduceEq, Int.reduceNe, List.take_length, take_map_len, runesOf_eq, runeBytes_map, an_place_Inner, nf_place_Inner, fp_place_Inner, ty3, ty9, ty23, ty27, ty28, ty29, ty31, ty58, diptychlaw4_Cell.pv_eq, place_Spot.pv_eq, api_Attr.pv_eq, api_Node.pv_eq, diptychref4_Spot.pv_eq, pvL, List.map_nil]
  refine hK _ _ fun nx => ?_; clear hK K; try clear kk
  obtain ⟨e0, f0, hh⟩ := bind_ex hh
  obtain ⟨hlen0, f0⟩ := chk_some f0
  refine awp_fragE (CutTo (fun s => ∃ n_14, .inr n_14 = e0 ∧ ∃ (v_12 : Int) (v_13 : Bool) (nx : Nat) (g2 : Nat) (g4 : Nat), s = ⟨[(2, .box 2 g2 0), (4, .box 4 g4 0), (8, .list 1 (path_2.map (PV.int .i64))), (9, .int .i64 (path_2.length : Int)), (10, .int .i64 v_12), (11, .bool v_13)], [(2, g2, .var [.str n_14.Kind, .str n_14.Text, .list 1 (n_14.Marks.map PV.str), .list 2 (n_14.Attrs.map api_Attr.pv), .list 5 (n_14.Kids.map api_Node.pv)]), (4, g4, .var [.str ([] : Str), .str ([] : Str), .list 1 ([].map PV.str), .list 2 ([].map api_Attr.pv), .list 5 ([].map api_Node.pv)])], nx⟩))
    (fun i s => False)
    (fun s => ∃ res_11, .inl res_11 = e0 ∧ bodyR Try.prog [.cell 4 31, .tmp 5] (.tup [.agg [.str res_11.1.Kind, .str res_11.1.Text, .list 1 (res_11.1.Marks.map PV.str), .list 2 (res_11.1.Attrs.map api_Attr.pv), .list 5 (res_11.1.Kids.map api_Node.pv)], .int .i64 res_11.2]) [] .ret s) ?_ ?_ ?_ ?_
  · refine awp_block ?_
    refine awp_loopJ fun I hI => ?_
    have key : ∀ (suf pre : List Int) (v_6 : Int) (n_5 : api_Node), path_2 = pre ++ suf → v_6 = (pre.length : Int) → place_Inner_l0 suf v_6 n_5 = some e0 → ∀ (nx : Nat) (g2 : Nat) (g4 : Nat), I ⟨[(2, .box 2 g2 0), (4, .box 4 g4 0), (8, .list 1 (path_2.map (PV.int .i64))), (9, .int .i64 (path_2.length : Int)), (10, .int .i64 v_6)], [(2, g2, .var [.str n_5.Kind, .str n_5.Text, .list 1 (n_5.Marks.map PV.str), .list 2 (n_5.Attrs.map api_Attr.pv), .list 5 (n_5.Kids.map api_Node.pv)]), (4, g4, .var [.str ([] : Str), .str ([] : Str), .list 1 ([].map PV.str), .list 2 ([].map api_Attr.pv), .list 5 ([].map api_Node.pv)])], nx⟩ := by
      intro suf
      induction suf with
      | nil =>
        intro pre v_6 n_5 hsplit hidx hh nx g2 g4
        rw [place_Inner_l0] at hh
        refine hI _ ?_
        have h13 := walk_nil hsplit hidx
        refine awp_first fun K kk hK => ?_
        simp only [go_sem, ↓reduceIte, reduceCtorEq, Nat.reduceEqDiff, Nat.reduceAdd, Nat.reduceMul, Nat.reduceSub, Nat.reduceLT, Nat.reduceLeDiff, Nat.reducePow, Nat.reduceBEq, Nat.reduceBNe, Int.reduceNeg, Int.reduceBEq, Int.reduceBNe, Int.reduceAdd, Int.reduceSub, Int.reduceMul, Int.reduceLT, Int.reduceLE, Int.reduceToNat, Int.reduceEq, Int.reduceNe, List.take_length, take_map_len, runesOf_eq, runeBytes_map, an_place_Inner, nf_place_Inner, fp_place_Inner, ty3, ty9, ty23, ty27, ty28, ty29, ty31, ty58, diptychlaw4_Cell.pv_eq, place_Spot.pv_eq, api_Attr.pv_eq, api_Node.pv_eq, diptychref4_Spot.pv_eq, pvL, List.map_nil]
        refine hK _ _ fun nx => ?_; clear hK K; try clear kk
        refine awp_seq ?_
        refine awp_false (by first | exact congrArg PV.bool h13 | rfl) ?_
        refine awp_exit ?_; (repeat (with_reducible first | refine then_n ?_ | refine then_r ?_ | refine then_e ?_ | refine block_n ?_ | refine block_r ?_ | refine exit_here ?_ | refine exit_on rfl ?_ | refine scope_n ?_ | refine scope_r ?_ | refine scope_e ?_ | refine cut_awp ?_))
        refine fragN ?_
        refine cut_id ?_
        refine ⟨_, (Option.some.inj hh), ?_⟩
        first | exact ⟨_, _, _, _, _, rfl⟩ | (simp only [diptychlaw4_Cell.pv_eq, place_Spot.pv_eq, api_Attr.pv_eq, api_Node.pv_eq, diptychref4_Spot.pv_eq, pvL, List.map_cons, List.map_nil, List.map_append, rune1]; exact ⟨_, _, _, _, _, rfl⟩)
      | cons y_9 suf ih =>
        intro pre v_6 n_5 hsplit hidx hh nx g2 g4
        rw [place_Inner_l0] at hh
        refine hI _ ?_
        obtain ⟨hl0a, hl0b, hl0d, hl0w, h13⟩ := walk_cons (f := (PV.int .i64)) hsplit hidx hlen0
        refine awp_first fun K kk hK => ?_
        simp only [go_sem, ↓reduceIte, reduceCtorEq, Nat.reduceEqDiff, Nat.reduceAdd, Nat.reduceMul, Nat.reduceSub, Nat.reduceLT, Nat.reduceLeDiff, Nat.reducePow, Nat.reduceBEq, Nat.reduceBNe, Int.reduceNeg, Int.reduceBEq, Int.reduceBNe, Int.reduceAdd, Int.reduceSub, Int.reduceMul, Int.reduceLT, Int.reduceLE, Int.reduceToNat, Int.reduceEq, Int.reduceNe, List.take_length, take_map_len, runesOf_eq, runeBytes_map, an_place_Inner, nf_place_Inner, fp_place_Inner, ty3, ty9, ty23, ty27, ty28, ty29, ty31, ty58, diptychlaw4_Cell.pv_eq, place_Spot.pv_eq, api_Attr.pv_eq, api_Node.pv_eq, diptychref4_Spot.pv_eq, pvL, List.map_nil]
        refine hK _ _ fun nx => ?_; clear hK K; try clear kk
        refine awp_seq ?_
        refine awp_true (by first | exact congrArg PV.bool h13 | rfl) ?_
        refine awp_skip ?_; (repeat (with_reducible first | refine then_n ?_ | refine then_r ?_ | refine then_e ?_ | refine block_n ?_ | refine block_r ?_ | refine exit_here ?_ | refine exit_on rfl ?_ | refine scope_n ?_ | refine scope_r ?_ | refine scope_e ?_ | refine cut_awp ?_))
        refine awp_seq ?_
        refine awp_block ?_
        refine awp_first fun K kk hK => ?_
        simp only [go_sem, ↓reduceIte, reduceCtorEq, Nat.reduceEqDiff, Nat.reduceAdd, Nat.reduceMul, Nat.reduceSub, Nat.reduceLT, Nat.reduceLeDiff, Nat.reducePow, Nat.reduceBEq, Nat.reduceBNe, Int.reduceNeg, Int.reduceBEq, Int.reduceBNe, Int.reduceAdd, Int.reduceSub, Int.reduceMul, Int.reduceLT, Int.reduceLE, Int.reduceToNat, Int.reduceEq, Int.reduceNe, List.take_length, take_map_len, runesOf_eq, runeBytes_map, an_place_Inner, nf_place_Inner, fp_place_Inner, ty3, ty9, ty23, ty27, ty28, ty29, ty31, ty58, diptychlaw4_Cell.pv_eq, place_Spot.pv_eq, api_Attr.pv_eq, api_Node.pv_eq, diptychref4_Spot.pv_eq, pvL, List.map_nil, hl0a, hl0b, hl0d, hl0w]
        refine hK _ _ fun nx => ?_; clear hK K; try clear kk
        refine awp_seq ?_
        by_cases h14 : (decide (y_9 < (0 : Int))) = true
        · rw [if_pos h14] at hh
          refine awp_first fun K kk hK => ?_
          simp only [go_sem, ↓reduceIte, reduceCtorEq, Nat.reduceEqDiff, Nat.reduceAdd, Nat.reduceMul, Nat.reduceSub, Nat.reduceLT, Nat.reduceLeDiff, Nat.reducePow, Nat.reduceBEq, Nat.reduceBNe, Int.reduceNeg, Int.reduceBEq, Int.reduceBNe, Int.reduceAdd, Int.reduceSub, Int.reduceMul, Int.reduceLT, Int.reduceLE, Int.reduceToNat, Int.reduceEq, Int.reduceNe, List.take_length, take_map_len, runesOf_eq, runeBytes_map, an_place_Inner, nf_place_Inner, fp_place_Inner, ty3, ty9, ty23, ty27, ty28, ty29, ty31, ty58, diptychlaw4_Cell.pv_eq, place_Spot.pv_eq, api_Attr.pv_eq, api_Node.pv_eq, diptychref4_Spot.pv_eq, pvL, List.map_nil, h14, of_decide_eq_true h14, h14, of_decide_eq_true h14, hl0a, hl0b, hl0d, hl0w]
          (repeat (refine And.intro ?_ ?_; focus (first | assumption | (try simp only [List.length_append, List.length_cons, List.length_nil] at *; omega))))
          refine hK _ _ fun nx => ?_; clear hK K; try clear kk
          refine awp_true rfl ?_
          refine awp_first fun K kk hK => ?_
          simp only [go_sem, ↓reduceIte, reduceCtorEq, Nat.reduceEqDiff, Nat.reduceAdd, Nat.reduceMul, Nat.reduceSub, Nat.reduceLT, Nat.reduceLeDiff, Nat.reducePow, Nat.reduceBEq, Nat.reduceBNe, Int.reduceNeg, Int.reduceBEq, Int.reduceBNe, Int.reduceAdd, Int.reduceSub, Int.reduceMul, Int.reduceLT, Int.reduceLE, Int.reduceToNat, Int.reduceEq, Int.reduceNe, List.take_length, take_map_len, runesOf_eq, runeBytes_map, an_place_Inner, nf_place_Inner, fp_place_Inner, ty3, ty9, ty23, ty27, ty28, ty29, ty31, ty58, diptychlaw4_Cell.pv_eq, place_Spot.pv_eq, api_Attr.pv_eq, api_Node.pv_eq, diptychref4_Spot.pv_eq, pvL, List.map_nil, hl0a, hl0b, hl0d, hl0w]
          refine hK _ _ fun nx => ?_; clear hK K; try clear kk
          refine awp_ret ?_; (repeat (with_reducible first | refine then_n ?_ | refine then_r ?_ | refine then_e ?_ | refine block_n ?_ | refine block_r ?_ | refine exit_here ?_ | refine exit_on rfl ?_ | refine scope_n ?_ | refine scope_r ?_ | refine scope_e ?_ | refine cut_awp ?_))
          refine fragR ⟨_, (Option.some.inj hh), ?_⟩
          refine ret_pure2 ?_ (by rfl)
          simp only [go_sem, ↓reduceIte, reduceCtorEq, Nat.reduceEqDiff, Nat.reduceAdd, Nat.reduceMul, Nat.reduceSub, Nat.reduceLT, Nat.reduceLeDiff, Nat.reducePow, Nat.reduceBEq, Nat.reduceBNe, Int.reduceNeg, Int.reduceBEq, Int.reduceBNe, Int.reduceAdd, Int.reduceSub, Int.reduceMul, Int.reduceLT, Int.reduceLE, Int.reduceToNat, Int.reduceEq, Int.reduceNe, List.take_length, take_map_len, runesOf_eq, runeBytes_map, an_place_Inner, nf_place_Inner, fp_place_Inner, ty3, ty9, ty23, ty27, ty28, ty29, ty31, ty58, diptychlaw4_Cell.pv_eq, place_Spot.pv_eq, api_Attr.pv_eq, api_Node.pv_eq, diptychref4_Spot.pv_eq, pvL, List.map_nil, rvsRes, rvRes, cellRes, tupOf, pur2, List.map_cons, List.map_append, List.head?_cons]
          (repeat (first | exact Wk.refl _ | exact WkL.refl _ | exact Wk.nil _ | refine Wk.agg _ _ ?_ | refine Wk.tup _ _ ?_ | refine WkL.cons _ _ _ _ ?_ ?_ | exact WkL.nil))
        · rw [if_neg h14] at hh
          replace h14 := Bool.eq_false_iff.mpr h14
          by_cases h15 : (decide (y_9 ≥ (n_5.Kids.length : Int))) = true
          · rw [if_pos h15] at hh
            refine awp_first fun K kk hK => ?_
            simp only [go_sem, ↓reduceIte, reduceCtorEq, Nat.reduceEqDiff, Nat.reduceAdd, Nat.reduceMul, Nat.reduceSub, Nat.reduceLT, Nat.reduceLeDiff, Nat.reducePow, Nat.reduceBEq, Nat.reduceBNe, Int.reduceNeg, Int.reduceBEq, Int.reduceBNe, Int.reduceAdd, Int.reduceSub, Int.reduceMul, Int.reduceLT, Int.reduceLE, Int.reduceToNat, Int.reduceEq, Int.reduceNe, List.take_length, take_map_len, runesOf_eq, runeBytes_map, an_place_Inner, nf_place_Inner, fp_place_Inner, ty3, ty9, ty23, ty27, ty28, ty29, ty31, ty58, diptychlaw4_Cell.pv_eq, place_Spot.pv_eq, api_Attr.pv_eq, api_Node.pv_eq, diptychref4_Spot.pv_eq, pvL, List.map_nil, h14, of_decide_eq_false h14, h14, of_decide_eq_false h14, h15, of_decide_eq_true h15, h15, of_decide_eq_true h15, hl0a, hl0b, hl0d, hl0w]
            (repeat (refine And.intro ?_ ?_; focus (first | assumption | (try simp only [List.length_append, List.length_cons, List.length_nil] at *; omega))))
            refine hK _ _ fun nx => ?_; clear hK K; try clear kk
            refine awp_true rfl ?_
            refine awp_first fun K kk hK => ?_
            simp only [go_sem, ↓reduceIte, reduceCtorEq, Nat.reduceEqDiff, Nat.reduceAdd, Nat.reduceMul, Nat.reduceSub, Nat.reduceLT, Nat.reduceLeDiff, Nat.reducePow, Nat.reduceBEq, Nat.reduceBNe, Int.reduceNeg, Int.reduceBEq, Int.reduceBNe, Int.reduceAdd, Int.reduceSub, Int.reduceMul, Int.reduceLT, Int.reduceLE, Int.reduceToNat, Int.reduceEq, Int.reduceNe, List.take_length, take_map_len, runesOf_eq, runeBytes_map, an_place_Inner, nf_place_Inner, fp_place_Inner, ty3, ty9, ty23, ty27, ty28, ty29, ty31, ty58, diptychlaw4_Cell.pv_eq, place_Spot.pv_eq, api_Attr.pv_eq, api_Node.pv_eq, diptychref4_Spot.pv_eq, pvL, List.map_nil, hl0a, hl0b, hl0d, hl0w]
            refine hK _ _ fun nx => ?_; clear hK K; try clear kk
            refine awp_ret ?_; (repeat (with_reducible first | refine then_n ?_ | refine then_r ?_ | refine then_e ?_ | refine block_n ?_ | refine block_r ?_ | refine exit_here ?_ | refine exit_on rfl ?_ | refine scope_n ?_ | refine scope_r ?_ | refine scope_e ?_ | refine cut_awp ?_))
            refine fragR ⟨_, (Option.some.inj hh), ?_⟩
            refine ret_pure2 ?_ (by rfl)
            simp only [go_sem, ↓reduceIte, reduceCtorEq, Nat.reduceEqDiff, Nat.reduceAdd, Nat.reduceMul, Nat.reduceSub, Nat.reduceLT, Nat.reduceLeDiff, Nat.reducePow, Nat.reduceBEq, Nat.reduceBNe, Int.reduceNeg, Int.reduceBEq, Int.reduceBNe, Int.reduceAdd, Int.reduceSub, Int.reduceMul, Int.reduceLT, Int.reduceLE, Int.reduceToNat, Int.reduceEq, Int.reduceNe, List.take_length, take_map_len, runesOf_eq, runeBytes_map, an_place_Inner, nf_place_Inner, fp_place_Inner, ty3, ty9, ty23, ty27, ty28, ty29, ty31, ty58, diptychlaw4_Cell.pv_eq, place_Spot.pv_eq, api_Attr.pv_eq, api_Node.pv_eq, diptychref4_Spot.pv_eq, pvL, List.map_nil, rvsRes, rvRes, cellRes, tupOf, pur2, List.map_cons, List.map_append, List.head?_cons]
            (repeat (first | exact Wk.refl _ | exact WkL.refl _ | exact Wk.nil _ | refine Wk.agg _ _ ?_ | refine Wk.tup _ _ ?_ | refine WkL.cons _ _ _ _ ?_ ?_ | exact WkL.nil))
          · rw [if_neg h15] at hh
            replace h15 := Bool.eq_false_iff.mpr h15
            refine awp_first fun K kk hK => ?_
            simp only [go_sem, ↓reduceIte, reduceCtorEq, Nat.reduceEqDiff, Nat.reduceAdd, Nat.reduceMul, Nat.reduceSub, Nat.reduceLT, Nat.reduceLeDiff, Nat.reducePow, Nat.reduceBEq, Nat.reduceBNe, Int.reduceNeg, Int.reduceBEq, Int.reduceBNe, Int.reduceAdd, Int.reduceSub, Int.reduceMul, Int.reduceLT, Int.reduceLE, Int.reduceToNat, Int.reduceEq, Int.reduceNe, List.take_length, take_map_len, runesOf_eq, runeBytes_map, an_place_Inner, nf_place_Inner, fp_place_Inner, ty3, ty9, ty23, ty27, ty28, ty29, ty31, ty58, diptychlaw4_Cell.pv_eq, place_Spot.pv_eq, api_Attr.pv_eq, api_Node.pv_eq, diptychref4_Spot.pv_eq, pvL, List.map_nil, h14, of_decide_eq_false h14, h14, of_decide_eq_false h14, h15, of_decide_eq_false h15, h15, of_decide_eq_false h15, hl0a, hl0b, hl0d, hl0w]
            (repeat (refine And.intro ?_ ?_; focus (first | assumption | (try simp only [List.length_append, List.length_cons, List.length_nil] at *; omega))))
            refine hK _ _ fun nx => ?_; clear hK K; try clear kk
            by_cases h16 : (n_5.Kind == ([116, 101, 120, 116] : Str)) = true
            · rw [if_pos h16] at hh
              refine awp_true (by first | exact congrArg PV.bool h16 | rfl) ?_
              refine awp_first fun K kk hK => ?_
              simp only [go_sem, ↓reduceIte, reduceCtorEq, Nat.reduceEqDiff, Nat.reduceAdd, Nat.reduceMul, Nat.reduceSub, Nat.reduceLT, Nat.reduceLeDiff, Nat.reducePow, Nat.reduceBEq, Nat.reduceBNe, Int.reduceNeg, Int.reduceBEq, Int.reduceBNe, Int.reduceAdd, Int.reduceSub, Int.reduceMul, Int.reduceLT, Int.reduceLE, Int.reduceToNat, Int.reduceEq, Int.reduceNe, List.take_length, take_map_len, runesOf_eq, runeBytes_map, an_place_Inner, nf_place_Inner, fp_place_Inner, ty3, ty9, ty23, ty27, ty28, ty29, ty31, ty58, diptychlaw4_Cell.pv_eq, place_Spot.pv_eq, api_Attr.pv_eq, api_Node.pv_eq, diptychref4_Spot.pv_eq, pvL, List.map_nil, hl0a, hl0b, hl0d, hl0w]
              refine hK _ _ fun nx => ?_; clear hK K; try clear kk
              refine awp_ret ?_; (repeat (with_reducible first | refine then_n ?_ | refine then_r ?_ | refine then_e ?_ | refine block_n ?_ | refine block_r ?_ | refine exit_here ?_ | refine exit_on rfl ?_ | refine scope_n ?_ | refine scope_r ?_ | refine scope_e ?_ | refine cut_awp ?_))
              refine fragR ⟨_, (Option.some.inj hh), ?_⟩
              refine ret_pure2 ?_ (by rfl)
              simp only [go_sem, ↓reduceIte, reduceCtorEq, Nat.reduceEqDiff, Nat.reduceAdd, Nat.reduceMul, Nat.reduceSub, Nat.reduceLT, Nat.reduceLeDiff, Nat.reducePow, Nat.reduceBEq, Nat.reduceBNe, Int.reduceNeg, Int.reduceBEq, Int.reduceBNe, Int.reduceAdd, Int.reduceSub, Int.reduceMul, Int.reduceLT, Int.reduceLE, Int.reduceToNat, Int.reduceEq, Int.reduceNe, List.take_length, take_map_len, runesOf_eq, runeBytes_map, an_place_Inner, nf_place_Inner, fp_place_Inner, ty3, ty9, ty23, ty27, ty28, ty29, ty31, ty58, diptychlaw4_Cell.pv_eq, place_Spot.pv_eq, api_Attr.pv_eq, api_Node.pv_eq, diptychref4_Spot.pv_eq, pvL, List.map_nil, rvsRes, rvRes, cellRes, tupOf, pur2, List.map_cons, List.map_append, List.head?_cons]
              (repeat (first | exact Wk.refl _ | exact WkL.refl _ | exact Wk.nil _ | refine Wk.agg _ _ ?_ | refine Wk.tup _ _ ?_ | refine WkL.cons _ _ _ _ ?_ ?_ | exact WkL.nil))
            · rw [if_neg h16] at hh
              replace h16 := Bool.eq_false_iff.mpr h16
              refine awp_false (by first | exact congrArg PV.bool h16 | rfl) ?_
              refine awp_skip ?_; (repeat (with_reducible first | refine then_n ?_ | refine then_r ?_ | refine then_e ?_ | refine block_n ?_ | refine block_r ?_ | refine exit_here ?_ | refine exit_on rfl ?_ | refine scope_n ?_ | refine scope_r ?_ | refine scope_e ?_ | refine cut_awp ?_))
              obtain ⟨x_10, h17, hh⟩ := bind_ex hh
              obtain ⟨h17a, h17b, h17c⟩ := rd_some h17
              have h17d := rd_get (f := api_Node.pv) h17c
              have h17f := rd_more (f := api_Node.pv) h17c
              try simp only [Int.toNat_natCast, Int.reduceToNat] at h17d h17f
              refine awp_region fun K kk hK => ?_
              simp only [go_sem, ↓reduceIte, reduceCtorEq, Nat.reduceEqDiff, Nat.reduceAdd, Nat.reduceMul, Nat.reduceSub, Nat.reduceLT, Nat.reduceLeDiff, Nat.reducePow, Nat.reduceBEq, Nat.reduceBNe, Int.reduceNeg, Int.reduceBEq, Int.reduceBNe, Int.reduceAdd, Int.reduceSub, Int.reduceMul, Int.reduceLT, Int.reduceLE, Int.reduceToNat, Int.reduceEq, Int.reduceNe, List.take_length, take_map_len, runesOf_eq, runeBytes_map, an_place_Inner, nf_place_Inner, fp_place_Inner, ty3, ty9, ty23, ty27, ty28, ty29, ty31, ty58, diptychlaw4_Cell.pv_eq, place_Spot.pv_eq, api_Attr.pv_eq, api_Node.pv_eq, diptychref4_Spot.pv_eq, pvL, List.map_nil, h17a, h17b, h17d, h17f.1, h17f.2, hl0a, hl0b, hl0d, hl0w]
              (repeat (refine And.intro ?_ ?_; focus (first | assumption | (try simp only [List.length_append, List.length_cons, List.length_nil] at *; omega))))
              refine hK _ _ fun nx => ?_; clear hK K; try clear kk
              (repeat (with_reducible first | refine then_n ?_ | refine then_r ?_ | refine then_e ?_ | refine block_n ?_ | refine block_r ?_ | refine exit_here ?_ | refine exit_on rfl ?_ | refine scope_n ?_ | refine scope_r ?_ | refine scope_e ?_ | refine cut_awp ?_))
              refine awp_region fun K kk hK => ?_
              simp only [go_sem, ↓reduceIte, reduceCtorEq, Nat.reduceEqDiff, Nat.reduceAdd, Nat.reduceMul, Nat.reduceSub, Nat.reduceLT, Nat.reduceLeDiff, Nat.reducePow, Nat.reduceBEq, Nat.reduceBNe, Int.reduceNeg, Int.reduceBEq, Int.reduceBNe, Int.reduceAdd, Int.reduceSub, Int.reduceMul, Int.reduceLT, Int.reduceLE, Int.reduceToNat, Int.reduceEq, Int.reduceNe, List.take_length, take_map_len, runesOf_eq, runeBytes_map, an_place_Inner, nf_place_Inner, fp_place_Inner, ty3, ty9, ty23, ty27, ty28, ty29, ty31, ty58, diptychlaw4_Cell.pv_eq, place_Spot.pv_eq, api_Attr.pv_eq, api_Node.pv_eq, diptychref4_Spot.pv_eq, pvL, List.map_nil, hl0a, hl0b, hl0d, hl0w]
              refine hK _ _ fun nx => ?_; clear hK K; try clear kk
              (repeat (with_reducible first | refine then_n ?_ | refine then_r ?_ | refine then_e ?_ | refine block_n ?_ | refine block_r ?_ | refine exit_here ?_ | refine exit_on rfl ?_ | refine scope_n ?_ | refine scope_r ?_ | refine scope_e ?_ | refine cut_awp ?_))
              have ih' := ih (pre ++ [y_9]) (v_6 + 1) _ (by rw [hsplit]; simp) (by simp [hidx]) hh nx
              refine cut_id ?_
              first | exact ih' _ _ | (simp only [diptychlaw4_Cell.pv_eq, place_Spot.pv_eq, api_Attr.pv_eq, api_Node.pv_eq, diptychref4_Spot.pv_eq, pvL, List.map_cons, List.map_nil, List.map_append, rune1] at ih' ⊢; exact ih' _ _)
    exact key path_2 [] _ _ rfl rfl f0 _ _ _
  · rintro s ⟨t, hless, n_14, rfl, v_12, v_13, nx, g2, g4, rfl⟩
    try dsimp only at hh
    (repeat (with_reducible first | refine then_n ?_ | refine then_r ?_ | refine then_e ?_ | refine block_n ?_ | refine block_r ?_ | refine exit_here ?_ | refine exit_on rfl ?_ | refine scope_n ?_ | refine scope_r ?_ | refine scope_e ?_))
    first | (refine cut_less hless ?_; try refine cut_awp ?_) | refine frag_less hless ?_
    refine awp_seq ?_
    refine awp_first fun K kk hK => ?_
    simp only [go_sem, ↓reduceIte, reduceCtorEq, Nat.reduceEqDiff, Nat.reduceAdd, Nat.reduceMul, Nat.reduceSub, Nat.reduceLT, Nat.reduceLeDiff, Nat.reducePow, Nat.reduceBEq, Nat.reduceBNe, Int.reduceNeg, Int.reduceBEq, Int.reduceBNe, Int.reduceAdd, Int.reduceSub, Int.reduceMul, Int.reduceLT, Int.reduceLE, Int.reduceToNat, Int.reduceEq, Int.reduceNe, List.take_length, take_map_len, runesOf_eq, runeBytes_map, an_place_Inner, nf_place_Inner, fp_place_Inner, ty3, ty9, ty23, ty27, ty28, ty29, ty31, ty58, diptychlaw4_Cell.pv_eq, place_Spot.pv_eq, api_Attr.pv_eq, api_Node.pv_eq, diptychref4_Spot.pv_eq, pvL, List.map_nil]
    refine hK _ _ fun nx => ?_; clear hK K; try clear kk
    by_cases h18 : (n_14.Kind == ([116, 101, 120, 116] : Str)) = true
    · rw [if_pos h18] at hh
      refine awp_true (by first | exact congrArg PV.bool h18 | rfl) ?_
      refine awp_first fun K kk hK => ?_
      simp only [go_sem, ↓reduceIte, reduceCtorEq, Nat.reduceEqDiff, Nat.reduceAdd, Nat.reduceMul, Nat.reduceSub, Nat.reduceLT, Nat.reduceLeDiff, Nat.reducePow, Nat.reduceBEq, Nat.reduceBNe, Int.reduceNeg, Int.reduceBEq, Int.reduceBNe, Int.reduceAdd, Int.reduceSub, Int.reduceMul, Int.reduceLT, Int.reduceLE, Int.reduceToNat, Int.reduceEq, Int.reduceNe, List.take_length, take_map_len, runesOf_eq, runeBytes_map, an_place_Inner, nf_place_Inner, fp_place_Inner, ty3, ty9, ty23, ty27, ty28, ty29, ty31, ty58, diptychlaw4_Cell.pv_eq, place_Spot.pv_eq, api_Attr.pv_eq, api_Node.pv_eq, diptychref4_Spot.pv_eq, pvL, List.map_nil]
      refine hK _ _ fun nx => ?_; clear hK K; try clear kk
      refine awp_ret ?_; (repeat (with_reducible first | refine then_n ?_ | refine then_r ?_ | refine then_e ?_ | refine block_n ?_ | refine block_r ?_ | refine exit_here ?_ | refine exit_on rfl ?_ | refine scope_n ?_ | refine scope_r ?_ | refine scope_e ?_ | refine cut_awp ?_))
      obtain hR := Option.some.inj hh
      subst hR
      refine ret_pure2 ?_ (by rfl)
      simp only [go_sem, ↓reduceIte, reduceCtorEq, Nat.reduceEqDiff, Nat.reduceAdd, Nat.reduceMul, Nat.reduceSub, Nat.reduceLT, Nat.reduceLeDiff, Nat.reducePow, Nat.reduceBEq, Nat.reduceBNe, Int.reduceNeg, Int.reduceBEq, Int.reduceBNe, Int.reduceAdd, Int.reduceSub, Int.reduceMul, Int.reduceLT, Int.reduceLE, Int.reduceToNat, Int.reduceEq, Int.reduceNe, List.take_length, take_map_len, runesOf_eq, runeBytes_map, an_place_Inner, nf_place_Inner, fp_place_Inner, ty3, ty9, ty23, ty27, ty28, ty29, ty31, ty58, diptychlaw4_Cell.pv_eq, place_Spot.pv_eq, api_Attr.pv_eq, api_Node.pv_eq, diptychref4_Spot.pv_eq, pvL, List.map_nil, rvsRes, rvRes, cellRes, tupOf, pur2, List.map_cons, List.map_append, List.head?_cons]
      (repeat (first | exact Wk.refl _ | exact WkL.refl _ | exact Wk.nil _ | refine Wk.agg _ _ ?_ | refine Wk.tup _ _ ?_ | refine WkL.cons _ _ _ _ ?_ ?_ | exact WkL.nil))
    · rw [if_neg h18] at hh
      replace h18 := Bool.eq_false_iff.mpr h18
      refine awp_false (by first | exact congrArg PV.bool h18 | rfl) ?_
      refine awp_skip ?_; (repeat (with_reducible first | refine then_n ?_ | refine then_r ?_ | refine then_e ?_ | refine block_n ?_ | refine block_r ?_ | refine exit_here ?_ | refine exit_on rfl ?_ | refine scope_n ?_ | refine scope_r ?_ | refine scope_e ?_ | refine cut_awp ?_))
      refine awp_first fun K kk hK => ?_
      simp only [go_sem, ↓reduceIte, reduceCtorEq, Nat.reduceEqDiff, Nat.reduceAdd, Nat.reduceMul, Nat.reduceSub, Nat.reduceLT, Nat.reduceLeDiff, Nat.reducePow, Nat.reduceBEq, Nat.reduceBNe, Int.reduceNeg, Int.reduceBEq, Int.reduceBNe, Int.reduceAdd, Int.reduceSub, Int.reduceMul, Int.reduceLT, Int.reduceLE, Int.reduceToNat, Int.reduceEq, Int.reduceNe, List.take_length, take_map_len, runesOf_eq, runeBytes_map, an_place_Inner, nf_place_Inner, fp_place_Inner, ty3, ty9, ty23, ty27, ty28, ty29, ty31, ty58, diptychlaw4_Cell.pv_eq, place_Spot.pv_eq, api_Attr.pv_eq, api_Node.pv_eq, diptychref4_Spot.pv_eq, pvL, List.map_nil]
      refine hK _ _ fun nx => ?_; clear hK K; try clear kk
      refine awp_ret ?_; (repeat (with_reducible first | refine then_n ?_ | refine then_r ?_ | refine then_e ?_ | refine block_n ?_ | refine block_r ?_ | refine exit_here ?_ | refine exit_on rfl ?_ | refine scope_n ?_ | refine scope_r ?_ | refine scope_e ?_ | refine cut_awp ?_))
      obtain hR := Option.some.inj hh
      subst hR
      refine ret_pure2 ?_ (by rfl)
      simp only [go_sem, ↓reduceIte, reduceCtorEq, Nat.reduceEqDiff, Nat.reduceAdd, Nat.reduceMul, Nat.reduceSub, Nat.reduceLT, Nat.reduceLeDiff, Nat.reducePow, Nat.reduceBEq, Nat.reduceBNe, Int.reduceNeg, Int.reduceBEq, Int.reduceBNe, Int.reduceAdd, Int.reduceSub, Int.reduceMul, Int.reduceLT, Int.reduceLE, Int.reduceToNat, Int.reduceEq, Int.reduceNe, List.take_length, take_map_len, runesOf_eq, runeBytes_map, an_place_Inner, nf_place_Inner, fp_place_Inner, ty3, ty9, ty23, ty27, ty28, ty29, ty31, ty58, diptychlaw4_Cell.pv_eq, place_Spot.pv_eq, api_Attr.pv_eq, api_Node.pv_eq, diptychref4_Spot.pv_eq, pvL, List.map_nil, rvsRes, rvRes, cellRes, tupOf, pur2, List.map_cons, List.map_append, List.head?_cons]
      (repeat (first | exact Wk.refl _ | exact WkL.refl _ | exact Wk.nil _ | refine Wk.agg _ _ ?_ | refine Wk.tup _ _ ?_ | refine WkL.cons _ _ _ _ ?_ ?_ | exact WkL.nil))
  · intro i s h; exact h.elim
  · rintro s ⟨res_11, rfl, hb⟩
    try dsimp only at hh
    obtain hR := Option.some.inj hh
    subst hR
    (repeat (with_reducible first | refine then_n ?_ | refine then_r ?_ | refine then_e ?_ | refine block_n ?_ | refine block_r ?_ | refine exit_here ?_ | refine exit_on rfl ?_ | refine scope_n ?_ | refine scope_r ?_ | refine scope_e ?_ | refine cut_awp ?_))
    exact hb
theorem place_Start_ok (n_1 : api_Node) (path_2 : (List Int)) (R : (Int × Int)) (hh : place_Start n_1 path_2 = some R) : PC Try.prog 16 [.agg [.str n_1.Kind, .str n_1.Text, .list 1 (n_1.Marks.map PV.str), .list 2 (n_1.Attrs.map api_Attr.pv), .list 5 (n_1.Kids.map api_Node.pv)], .list 1 (path_2.map (PV.int .i64))] (.tup [.int .i64 R.1, .int .i64 R.2]) := by
  rw [place_Start] at hh
  refine start_place_Start rfl ?_
  refine awp_first fun K kk hK => ?_
  simp only [go_sem, ↓reduceIte, reduceCtorEq, Nat.reduceEqDiff, Nat.reduceAdd, Nat.reduceMul, Nat.reduceSub, Nat.reduceLT, Nat.reduceLeDiff, Nat.reducePow, Nat.reduceBEq, Nat.reduceBNe, Int.reduceNeg, Int.reduceBEq, Int.reduceBNe, Int.reduceAdd, Int.reduceSub, Int.reduceMul, Int.reduceLT, Int.reduceLE, Int.reduceToNat, Int.reduceEq, Int.reduceNe, List.take_length, take_map_len, runesOf_eq, runeBytes_map, an_place_Start, nf_place_Start, fp_place_Start, ty3, ty9, ty23, ty27, ty28, ty29, ty31, ty33, ty58, diptychlaw4_Cell.pv_eq, place_Spot.pv_eq, api_Attr.pv_eq, api_Node.pv_eq, diptychref4_Spot.pv_eq, pvL, List.map_nil]
  refine hK _ _ fun nx => ?_; clear hK K; try clear kk
  refine awp_seq ?_
  obtain ⟨⟨r_3, r_4⟩, h1, hh⟩ := bind_ex hh
  dsimp only at hh
  refine awp_first fun K kk hK => ?_
  simp only [go_sem, ↓reduceIte, reduceCtorEq, Nat.reduceEqDiff, Nat.reduceAdd, Nat.reduceMul, Nat.reduceSub, Nat.reduceLT, Nat.reduceLeDiff, Nat.reducePow, Nat.reduceBEq, Nat.reduceBNe, Int.reduceNeg, Int.reduceBEq, Int.reduceBNe, Int.reduceAdd, Int.reduceSub, Int.reduceMul, Int.reduceLT, Int.reduceLE, Int.reduceToNat, Int.reduceEq, Int.reduceNe, List.take_length, take_map_len, runesOf_eq, runeBytes_map, an_place_Start, nf_place_Start, fp_place_Start, ty3, ty9, ty23, ty27, ty28, ty29, ty31, ty33, ty58, diptychlaw4_Cell.pv_eq, place_Spot.pv_eq, api_Attr.pv_eq, api_Node.pv_eq, diptychref4_Spot.pv_eq, pvL, List.map_nil]
  refine step_call2 (place_Inner_ok _ _ _ h1) (by try simp only [go_sem, ↓reduceIte, reduceCtorEq, Nat.reduceEqDiff, Nat.reduceAdd, Nat.reduceMul, Nat.reduceSub, Nat.reduceLT, Nat.reduceLeDiff, Nat.reducePow, Nat.reduceBEq, Nat.reduceBNe, Int.reduceNeg, Int.reduceBEq, Int.reduceBNe, Int.reduceAdd, Int.reduceSub, Int.reduceMul, Int.reduceLT, Int.reduceLE, Int.reduceToNat, Int.reduceEq, Int.reduceNe, List.take_length, take_map_len, runesOf_eq, runeBytes_map, an_place_Start, nf_place_Start, fp_place_Start, ty3, ty9, ty23, ty27, ty28, ty29, ty31, ty33, ty58, diptychlaw4_Cell.pv_eq, place_Spot.pv_eq, api_Attr.pv_eq, api_Node.pv_eq, diptychref4_Spot.pv_eq, pvL, List.map_nil]; (repeat (first | exact WkL.refl _ | exact Wk.refl _ | exact Wk.nil _ | refine WkL.cons _ _ _ _ ?_ ?_ | exact WkL.nil | refine Wk.agg _ _ ?_ | refine Wk.tup _ _ ?_))) (by rfl) (by rfl) ?_
  simp only [go_sem, ↓reduceIte, reduceCtorEq, Nat.reduceEqDiff, Nat.reduceAdd, Nat.reduceMul, Nat.reduceSub, Nat.reduceLT, Nat.reduceLeDiff, Nat.reducePow, Nat.reduceBEq, Nat.reduceBNe, Int.reduceNeg, Int.reduceBEq, Int.reduceBNe, Int.reduceAdd, Int.reduceSub, Int.reduceMul, Int.reduceLT, Int.reduceLE, Int.reduceToNat, Int.reduceEq, Int.reduceNe, List.take_length, take_map_len, runesOf_eq, runeBytes_map, an_place_Start, nf_place_Start, fp_place_Start, ty3, ty9, ty23, ty27, ty28, ty29, ty31, ty33, ty58, diptychlaw4_Cell.pv_eq, place_Spot.pv_eq, api_Attr.pv_eq, api_Node.pv_eq, diptychref4_Spot.pv_eq, pvL, List.map_nil]
  refine hK _ _ fun nx => ?_; clear hK K; try clear kk
  refine awp_first fun K kk hK => ?_
  simp only [go_sem, ↓reduceIte, reduceCtorEq, Nat.reduceEqDiff, Nat.reduceAdd, Nat.reduceMul, Nat.reduceSub, Nat.reduceLT, Nat.reduceLeDiff, Nat.reducePow, Nat.reduceBEq, Nat.reduceBNe, Int.reduceNeg, Int.reduceBEq, Int.reduceBNe, Int.reduceAdd, Int.reduceSub, Int.reduceMul, Int.reduceLT, Int.reduceLE, Int.reduceToNat, Int.reduceEq, Int.reduceNe, List.take_length, take_map_len, runesOf_eq, runeBytes_map, an_place_Start, nf_place_Start, fp_place_Start, ty3, ty9, ty23, ty27, ty28, ty29, ty31, ty33, ty58, diptychlaw4_Cell.pv_eq, place_Spot.pv_eq, api_Attr.pv_eq, api_Node.pv_eq, diptychref4_Spot.pv_eq, pvL, List.map_nil]
  refine hK _ _ fun nx => ?_; clear hK K; try clear kk
  by_cases h2 : (r_4 != (0 : Int)) = true
  · rw [if_pos h2] at hh
    refine awp_true (by first | exact congrArg PV.bool h2 | rfl) ?_
    refine awp_first fun K kk hK => ?_
    simp only [go_sem, ↓reduceIte, reduceCtorEq, Nat.reduceEqDiff, Nat.reduceAdd, Nat.reduceMul, Nat.reduceSub, Nat.reduceLT, Nat.reduceLeDiff, Nat.reducePow, Nat.reduceBEq, Nat.reduceBNe, Int.reduceNeg, Int.reduceBEq, Int.reduceBNe, Int.reduceAdd, Int.reduceSub, Int.reduceMul, Int.reduceLT, Int.reduceLE, Int.reduceToNat, Int.reduceEq, Int.reduceNe, List.take_length, take_map_len, runesOf_eq, runeBytes_map, an_place_Start, nf_place_Start, fp_place_Start, ty3, ty9, ty23, ty27, ty28, ty29, ty31, ty33, ty58, diptychlaw4_Cell.pv_eq, place_Spot.pv_eq, api_Attr.pv_eq, api_Node.pv_eq, diptychref4_Spot.pv_eq, pvL, List.map_nil]
    refine hK _ _ fun nx => ?_; clear hK K; try clear kk
    refine awp_ret ?_; (repeat (with_reducible first | refine then_n ?_ | refine then_r ?_ | refine then_e ?_ | refine block_n ?_ | refine block_r ?_ | refine exit_here ?_ | refine exit_on rfl ?_ | refine scope_n ?_ | refine scope_r ?_ | refine scope_e ?_ | refine cut_awp ?_))
    obtain hR := Option.some.inj hh
    subst hR
    refine ret_pure2 ?_ (by rfl)
    simp only [go_sem, ↓reduceIte, reduceCtorEq, Nat.reduceEqDiff, Nat.reduceAdd, Nat.reduceMul, Nat.reduceSub, Nat.reduceLT, Nat.reduceLeDiff, Nat.reducePow, Nat.reduceBEq, Nat.reduceBNe, Int.reduceNeg, Int.reduceBEq, Int.reduceBNe, Int.reduceAdd, Int.reduceSub, Int.reduceMul, Int.reduceLT, Int.reduceLE, Int.reduceToNat, Int.reduceEq, Int.reduceNe, List.take_length, take_map_len, runesOf_eq, runeBytes_map, an_place_Start, nf_place_Start, fp_place_Start, ty3, ty9, ty23, ty27, ty28, ty29, ty31, ty33, ty58, diptychlaw4_Cell.pv_eq, place_Spot.pv_eq, api_Attr.pv_eq, api_Node.pv_eq, diptychref4_Spot.pv_eq, pvL, List.map_nil, rvsRes, rvRes, cellRes, tupOf, pur2, List.map_cons, List.map_append, List.head?_cons]
    (repeat (first | exact Wk.refl _ | exact WkL.refl _ | exact Wk.nil _ | refine Wk.agg _ _ ?_ | refine Wk.tup _ _ ?_ | refine WkL.cons _ _ _ _ ?_ ?_ | exact WkL.nil))
  · rw [if_neg h2] at hh
    replace h2 := Bool.eq_false_iff.mpr h2
    refine awp_false (by first | exact congrArg PV.bool h2 | rfl) ?_
    refine awp_skip ?_; (repeat (with_reducible first | refine then_n ?_ | refine then_r ?_ | refine then_e ?_ | refine block_n ?_ | refine block_r ?_ | refine exit_here ?_ | refine exit_on rfl ?_ | refine scope_n ?_ | refine scope_r ?_ | refine scope_e ?_ | refine cut_awp ?_))
    refine awp_first fun K kk hK => ?_
    simp only [go_sem, ↓reduceIte, reduceCtorEq, Nat.reduceEqDiff, Nat.reduceAdd, Nat.reduceMul, Nat.reduceSub, Nat.reduceLT, Nat.reduceLeDiff, Nat.reducePow, Nat.reduceBEq, Nat.reduceBNe, Int.reduceNeg, Int.reduceBEq, Int.reduceBNe, Int.reduceAdd, Int.reduceSub, Int.reduceMul, Int.reduceLT, Int.reduceLE, Int.reduceToNat, Int.reduceEq, Int.reduceNe, List.take_length, take_map_len, runesOf_eq, runeBytes_map, an_place_Start, nf_place_Start, fp_place_Start, ty3, ty9, ty23, ty27, ty28, ty29, ty31, ty33, ty58, diptychlaw4_Cell.pv_eq, place_Spot.pv_eq, api_Attr.pv_eq, api_Node.pv_eq, diptychref4_Spot.pv_eq, pvL, List.map_nil]
    refine hK _ _ fun nx => ?_; clear hK K; try clear kk
    refine awp_seq ?_
    refine awp_first fun K kk hK => ?_
    simp only [go_sem, ↓reduceIte, reduceCtorEq, Nat.reduceEqDiff, Nat.reduceAdd, Nat.reduceMul, Nat.reduceSub, Nat.reduceLT, Nat.reduceLeDiff, Nat.reducePow, Nat.reduceBEq, Nat.reduceBNe, Int.reduceNeg, Int.reduceBEq, Int.reduceBNe, Int.reduceAdd, Int.reduceSub, Int.reduceMul, Int.reduceLT, Int.reduceLE, Int.reduceToNat, Int.reduceEq, Int.reduceNe, List.take_length, take_map_len, runesOf_eq, runeBytes_map, an_place_Start, nf_place_Start, fp_place_Start, ty3, ty9, ty23, ty27, ty28, ty29, ty31, ty33, ty58, diptychlaw4_Cell.pv_eq, place_Spot.pv_eq, api_Attr.pv_eq, api_Node.pv_eq, diptychref4_Spot.pv_eq, pvL, List.map_nil]
    refine hK _ _ fun nx => ?_; clear hK K; try clear kk
    obtain ⟨e0, f0, hh⟩ := bind_ex hh
    obtain ⟨hlen0, f0⟩ := chk_some f0
    refine awp_fragE (CutTo (fun s => ∃ at_20, at_20 = e0 ∧ ∃ (v_21 : Int) (v_22 : Bool) (n_23 : api_Node) (nx : Nat) (g2 : Nat), s = ⟨[(2, .box 2 g2 0), (8, .int .i64 at_20), (20, .list 1 (path_2.map (PV.int .i64))), (21, .int .i64 (path_2.length : Int)), (22, .int .i64 v_21), (23, .bool v_22)], [(2, g2, .var [.str n_23.Kind, .str n_23.Text, .list 1 (n_23.Marks.map PV.str), .list 2 (n_23.Attrs.map api_Attr.pv), .list 5 (n_23.Kids.map api_Node.pv)])], nx⟩))
      (fun i s => False)
      (fun s => False) ?_ ?_ ?_ ?_
    · refine awp_block ?_
      refine awp_loopJ fun I hI => ?_
      have key : ∀ (suf pre : List Int) (v_11 : Int) (at_10 : Int) (n_9 : api_Node), path_2 = pre ++ suf → v_11 = (pre.length : Int) → place_Start_l0 suf v_11 at_10 n_9 = some e0 → ∀ (nx : Nat) (g2 : Nat), I ⟨[(2, .box 2 g2 0), (8, .int .i64 at_10), (20, .list 1 (path_2.map (PV.int .i64))), (21, .int .i64 (path_2.length : Int)), (22, .int .i64 v_11)], [(2, g2, .var [.str n_9.Kind, .str n_9.Text, .list 1 (n_9.Marks.map PV.str), .list 2 (n_9.Attrs.map api_Attr.pv), .list 5 (n_9.Kids.map api_Node.pv)])], nx⟩ := by
        intro suf
        induction suf with
        | nil =>
          intro pre v_11 at_10 n_9 hsplit hidx hh nx g2
          rw [place_Start_l0] at hh
          refine hI _ ?_
          have h13 := walk_nil hsplit hidx
          refine awp_first fun K kk hK => ?_
          simp only [go_sem, ↓reduceIte, reduceCtorEq, Nat.reduceEqDiff, Nat.reduceAdd, Nat.reduceMul, Nat.reduceSub, Nat.reduceLT, Nat.reduceLeDiff, Nat.reducePow, Nat.reduceBEq, Nat.reduceBNe, Int.reduceNeg, Int.reduceBEq, Int.reduceBNe, Int.reduceAdd, Int.reduceSub, Int.reduceMul, Int.reduceLT, Int.reduceLE, Int.reduceToNat, Int.reduceEq, Int.reduceNe, List.take_length, take_map_len, runesOf_eq, runeBytes_map, an_place_Start, nf_place_Start, fp_place_Start, ty3, ty9, ty23, ty27, ty28, ty29, ty31, ty33, ty58, diptychlaw4_Cell.pv_eq, place_Spot.pv_eq, api_Attr.pv_eq, api_Node.pv_eq, diptychref4_Spot.pv_eq, pvL, List.map_nil]
          refine hK _ _ fun nx => ?_; clear hK K; try clear kk
          refine awp_seq ?_
          refine awp_false (by first | exact congrArg PV.bool h13 | rfl) ?_
          refine awp_exit ?_; (repeat (with_reducible first | refine then_n ?_ | refine then_r ?_ | refine then_e ?_ | refine block_n ?_ | refine block_r ?_ | refine exit_here ?_ | refine exit_on rfl ?_ | refine scope_n ?_ | refine scope_r ?_ | refine scope_e ?_ | refine cut_awp ?_))
          refine fragN ?_
          refine cut_id ?_
          refine ⟨_, (Option.some.inj hh), ?_⟩
          first | exact ⟨_, _, _, _, _, rfl⟩ | (simp only [diptychlaw4_Cell.pv_eq, place_Spot.pv_eq, api_Attr.pv_eq, api_Node.pv_eq, diptychref4_Spot.pv_eq, pvL, List.map_cons, List.map_nil, List.map_append, rune1]; exact ⟨_, _, _, _, _, rfl⟩)
        | cons y_16 suf ih =>
          intro pre v_11 at_10 n_9 hsplit hidx hh nx g2
          rw [place_Start_l0] at hh
          refine hI _ ?_
          obtain ⟨hl0a, hl0b, hl0d, hl0w, h13⟩ := walk_cons (f := (PV.int .i64)) hsplit hidx hlen0
          refine awp_first fun K kk hK => ?_
          simp only [go_sem, ↓reduceIte, reduceCtorEq, Nat.reduceEqDiff, Nat.reduceAdd, Nat.reduceMul, Nat.reduceSub, Nat.reduceLT, Nat.reduceLeDiff, Nat.reducePow, Nat.reduceBEq, Nat.reduceBNe, Int.reduceNeg, Int.reduceBEq, Int.reduceBNe, Int.reduceAdd, Int.reduceSub, Int.reduceMul, Int.reduceLT, Int.reduceLE, Int.reduceToNat, Int.reduceEq, Int.reduceNe, List.take_length, take_map_len, runesOf_eq, runeBytes_map, an_place_Start, nf_place_Start, fp_place_Start, ty3, ty9, ty23, ty27, ty28, ty29, ty31, ty33, ty58, diptychlaw4_Cell.pv_eq, place_Spot.pv_eq, api_Attr.pv_eq, api_Node.pv_eq, diptychref4_Spot.pv_eq, pvL, List.map_nil]
          refine hK _ _ fun nx => ?_; clear hK K; try clear kk
          refine awp_seq ?_
          refine awp_true (by first | exact congrArg PV.bool h13 | rfl) ?_
          refine awp_skip ?_; (repeat (with_reducible first | refine then_n ?_ | refine then_r ?_ | refine then_e ?_ | refine block_n ?_ | refine block_r ?_ | refine exit_here ?_ | refine exit_on rfl ?_ | refine scope_n ?_ | refine scope_r ?_ | refine scope_e ?_ | refine cut_awp ?_))
          refine awp_seq ?_
          refine awp_block ?_
          refine awp_first fun K kk hK => ?_
          simp only [go_sem, ↓reduceIte, reduceCtorEq, Nat.reduceEqDiff, Nat.reduceAdd, Nat.reduceMul, Nat.reduceSub, Nat.reduceLT, Nat.reduceLeDiff, Nat.reducePow, Nat.reduceBEq, Nat.reduceBNe, Int.reduceNeg, Int.reduceBEq, Int.reduceBNe, Int.reduceAdd, Int.reduceSub, Int.reduceMul, Int.reduceLT, Int.reduceLE, Int.reduceToNat, Int.reduceEq, Int.reduceNe, List.take_length, take_map_len, runesOf_eq, runeBytes_map, an_place_Start, nf_place_Start, fp_place_Start, ty3, ty9, ty23, ty27, ty28, ty29, ty31, ty33, ty58, diptychlaw4_Cell.pv_eq, place_Spot.pv_eq, api_Attr.pv_eq, api_Node.pv_eq, diptychref4_Spot.pv_eq, pvL, List.map_nil, hl0a, hl0b, hl0d, hl0w]
          refine hK _ _ fun nx => ?_; clear hK K; try clear kk
          obtain ⟨s_17, h14, hh⟩ := bind_ex hh
          obtain ⟨h14a, h14c⟩ := sl_some h14
          have h14g := sl_le h14a
          have h14d := sl_map0 (f := api_Node.pv) h14c
          try simp only [Int.toNat_natCast, Int.reduceToNat, List.map_cons, List.map_nil, diptychlaw4_Cell.pv_eq, place_Spot.pv_eq, api_Attr.pv_eq, api_Node.pv_eq, diptychref4_Spot.pv_eq, pvL] at h14d
          obtain ⟨total_18, h15, hh⟩ := bind_ex hh
          refine awp_first fun K kk hK => ?_
          simp only [go_sem, ↓reduceIte, reduceCtorEq, Nat.reduceEqDiff, Nat.reduceAdd, Nat.reduceMul, Nat.reduceSub, Nat.reduceLT, Nat.reduceLeDiff, Nat.reducePow, Nat.reduceBEq, Nat.reduceBNe, Int.reduceNeg, Int.reduceBEq, Int.reduceBNe, Int.reduceAdd, Int.reduceSub, Int.reduceMul, Int.reduceLT, Int.reduceLE, Int.reduceToNat, Int.reduceEq, Int.reduceNe, List.take_length, take_map_len, runesOf_eq, runeBytes_map, an_place_Start, nf_place_Start, fp_place_Start, ty3, ty9, ty23, ty27, ty28, ty29, ty31, ty33, ty58, diptychlaw4_Cell.pv_eq, place_Spot.pv_eq, api_Attr.pv_eq, api_Node.pv_eq, diptychref4_Spot.pv_eq, pvL, List.map_nil, h14a.1, h14a.2.1, h14a.2.2, h14d, h14g, hl0a, hl0b, hl0d, hl0w]
          (repeat (refine And.intro ?_ ?_; focus (first | assumption | (try simp only [List.length_append, List.length_cons, List.length_nil] at *; omega))))
          refine step_call2 (node_Total_ok _ _ h15) (by try simp only [go_sem, ↓reduceIte, reduceCtorEq, Nat.reduceEqDiff, Nat.reduceAdd, Nat.reduceMul, Nat.reduceSub, Nat.reduceLT, Nat.reduceLeDiff, Nat.reducePow, Nat.reduceBEq, Nat.reduceBNe, Int.reduceNeg, Int.reduceBEq, Int.reduceBNe, Int.reduceAdd, Int.reduceSub, Int.reduceMul, Int.reduceLT, Int.reduceLE, Int.reduceToNat, Int.reduceEq, Int.reduceNe, List.take_length, take_map_len, runesOf_eq, runeBytes_map, an_place_Start, nf_place_Start, fp_place_Start, ty3, ty9, ty23, ty27, ty28, ty29, ty31, ty33, ty58, diptychlaw4_Cell.pv_eq, place_Spot.pv_eq, api_Attr.pv_eq, api_Node.pv_eq, diptychref4_Spot.pv_eq, pvL, List.map_nil, h14a.1, h14a.2.1, h14a.2.2, h14d, h14g, hl0a, hl0b, hl0d, hl0w]; (repeat (first | exact WkL.refl _ | exact Wk.refl _ | exact Wk.nil _ | refine WkL.cons _ _ _ _ ?_ ?_ | exact WkL.nil | refine Wk.agg _ _ ?_ | refine Wk.tup _ _ ?_))) (by rfl) (by rfl) ?_
          simp only [go_sem, ↓reduceIte, reduceCtorEq, Nat.reduceEqDiff, Nat.reduceAdd, Nat.reduceMul, Nat.reduceSub, Nat.reduceLT, Nat.reduceLeDiff, Nat.reducePow, Nat.reduceBEq, Nat.reduceBNe, Int.reduceNeg, Int.reduceBEq, Int.reduceBNe, Int.reduceAdd, Int.reduceSub, Int.reduceMul, Int.reduceLT, Int.reduceLE, Int.reduceToNat, Int.reduceEq, Int.reduceNe, List.take_length, take_map_len, runesOf_eq, runeBytes_map, an_place_Start, nf_place_Start, fp_place_Start, ty3, ty9, ty23, ty27, ty28, ty29, ty31, ty33, ty58, diptychlaw4_Cell.pv_eq, place_Spot.pv_eq, api_Attr.pv_eq, api_Node.pv_eq, diptychref4_Spot.pv_eq, pvL, List.map_nil, h14a.1, h14a.2.1, h14a.2.2, h14d, h14g, hl0a, hl0b, hl0d, hl0w]
          (repeat (refine And.intro ?_ ?_; focus (first | assumption | (try simp only [List.length_append, List.length_cons, List.length_nil] at *; omega))))
          refine hK _ _ fun nx => ?_; clear hK K; try clear kk
          obtain ⟨x_19, h16, hh⟩ := bind_ex hh
          obtain ⟨h16a, h16b, h16c⟩ := rd_some h16
          have h16d := rd_get (f := api_Node.pv) h16c
          have h16f := rd_more (f := api_Node.pv) h16c
          try simp only [Int.toNat_natCast, Int.reduceToNat] at h16d h16f
          refine awp_region fun K kk hK => ?_
          simp only [go_sem, ↓reduceIte, reduceCtorEq, Nat.reduceEqDiff, Nat.reduceAdd, Nat.reduceMul, Nat.reduceSub, Nat.reduceLT, Nat.reduceLeDiff, Nat.reducePow, Nat.reduceBEq, Nat.reduceBNe, Int.reduceNeg, Int.reduceBEq, Int.reduceBNe, Int.reduceAdd, Int.reduceSub, Int.reduceMul, Int.reduceLT, Int.reduceLE, Int.reduceToNat, Int.reduceEq, Int.reduceNe, List.take_length, take_map_len, runesOf_eq, runeBytes_map, an_place_Start, nf_place_Start, fp_place_Start, ty3, ty9, ty23, ty27, ty28, ty29, ty31, ty33, ty58, diptychlaw4_Cell.pv_eq, place_Spot.pv_eq, api_Attr.pv_eq, api_Node.pv_eq, diptychref4_Spot.pv_eq, pvL, List.map_nil, h16a, h16b, h16d, h16f.1, h16f.2, hl0a, hl0b, hl0d, hl0w]
          (repeat (refine And.intro ?_ ?_; focus (first | assumption | (try simp only [List.length_append, List.length_cons, List.length_nil] at *; omega))))
          refine hK _ _ fun nx => ?_; clear hK K; try clear kk
          (repeat (with_reducible first | refine then_n ?_ | refine then_r ?_ | refine then_e ?_ | refine block_n ?_ | refine block_r ?_ | refine exit_here ?_ | refine exit_on rfl ?_ | refine scope_n ?_ | refine scope_r ?_ | refine scope_e ?_ | refine cut_awp ?_))
          refine awp_region fun K kk hK => ?_
          simp only [go_sem, ↓reduceIte, reduceCtorEq, Nat.reduceEqDiff, Nat.reduceAdd, Nat.reduceMul, Nat.reduceSub, Nat.reduceLT, Nat.reduceLeDiff, Nat.reducePow, Nat.reduceBEq, Nat.reduceBNe, Int.reduceNeg, Int.reduceBEq, Int.reduceBNe, Int.reduceAdd, Int.reduceSub, Int.reduceMul, Int.reduceLT, Int.reduceLE, Int.reduceToNat, Int.reduceEq, Int.reduceNe, List.take_length, take_map_len, runesOf_eq, runeBytes_map, an_place_Start, nf_place_Start, fp_place_Start, ty3, ty9, ty23, ty27, ty28, ty29, ty31, ty33, ty58, diptychlaw4_Cell.pv_eq, place_Spot.pv_eq, api_Attr.pv_eq, api_Node.pv_eq, diptychref4_Spot.pv_eq, pvL, List.map_nil, hl0a, hl0b, hl0d, hl0w]
          refine hK _ _ fun nx => ?_; clear hK K; try clear kk
          (repeat (with_reducible first | refine then_n ?_ | refine then_r ?_ | refine then_e ?_ | refine block_n ?_ | refine block_r ?_ | refine exit_here ?_ | refine exit_on rfl ?_ | refine scope_n ?_ | refine scope_r ?_ | refine scope_e ?_ | refine cut_awp ?_))
          have ih' := ih (pre ++ [y_16]) (v_11 + 1) _ _ (by rw [hsplit]; simp) (by simp [hidx]) hh nx
          refine cut_id ?_
          first | exact ih' _ | (simp only [diptychlaw4_Cell.pv_eq, place_Spot.pv_eq, api_Attr.pv_eq, api_Node.pv_eq, diptychref4_Spot.pv_eq, pvL, List.map_cons, List.map_nil, List.map_append, rune1] at ih' ⊢; exact ih' _)
      exact key path_2 [] _ _ _ rfl rfl f0 _ _
    · rintro s ⟨t, hless, at_20, rfl, v_21, v_22, n_23, nx, g2, rfl⟩
      try dsimp only at hh
      (repeat (with_reducible first | refine then_n ?_ | refine then_r ?_ | refine then_e ?_ | refine block_n ?_ | refine block_r ?_ | refine exit_here ?_ | refine exit_on rfl ?_ | refine scope_n ?_ | refine scope_r ?_ | refine scope_e ?_))
      first | (refine cut_less hless ?_; try refine cut_awp ?_) | refine frag_less hless ?_
      refine awp_first fun K kk hK => ?_
      simp only [go_sem, ↓reduceIte, reduceCtorEq, Nat.reduceEqDiff, Nat.reduceAdd, Nat.reduceMul, Nat.reduceSub, Nat.reduceLT, Nat.reduceLeDiff, Nat.reducePow, Nat.reduceBEq, Nat.reduceBNe, Int.reduceNeg, Int.reduceBEq, Int.reduceBNe, Int.reduceAdd, Int.reduceSub, Int.reduceMul, Int.reduceLT, Int.reduceLE, Int.reduceToNat, Int.reduceEq, Int.reduceNe, List.take_length, take_map_len, runesOf_eq, runeBytes_map, an_place_Start, nf_place_Start, fp_place_Start, ty3, ty9, ty23, ty27, ty28, ty29, ty31, ty33, ty58, diptychlaw4_Cell.pv_eq, place_Spot.pv_eq, api_Attr.pv_eq, api_Node.pv_eq, diptychref4_Spot.pv_eq, pvL, List.map_nil]
      refine hK _ _ fun nx => ?_; clear hK K; try clear kk
      refine awp_ret ?_; (repeat (with_reducible first | refine then_n ?_ | refine then_r ?_ | refine then_e ?_ | refine block_n ?_ | refine block_r ?_ | refine exit_here ?_ | refine exit_on rfl ?_ | refine scope_n ?_ | refine scope_r ?_ | refine scope_e ?_ | refine cut_awp ?_))
      obtain hR := Option.some.inj hh
      subst hR
      refine ret_pure2 ?_ (by rfl)
      simp only [go_sem, ↓reduceIte, reduceCtorEq, Nat.reduceEqDiff, Nat.reduceAdd, Nat.reduceMul, Nat.reduceSub, Nat.reduceLT, Nat.reduceLeDiff, Nat.reducePow, Nat.reduceBEq, Nat.reduceBNe, Int.reduceNeg, Int.reduceBEq, Int.reduceBNe, Int.reduceAdd, Int.reduceSub, Int.reduceMul, Int.reduceLT, Int.reduceLE, Int.reduceToNat, Int.reduceEq, Int.reduceNe, List.take_length, take_map_len, runesOf_eq, runeBytes_map, an_place_Start, nf_place_Start, fp_place_Start, ty3, ty9, ty23, ty27, ty28, ty29, ty31, ty33, ty58, diptychlaw4_Cell.pv_eq, place_Spot.pv_eq, api_Attr.pv_eq, api_Node.pv_eq, diptychref4_Spot.pv_eq, pvL, List.map_nil, rvsRes, rvRes, cellRes, tupOf, pur2, List.map_cons, List.map_append, List.head?_cons]
      (repeat (first | exact Wk.refl _ | exact WkL.refl _ | exact Wk.nil _ | refine Wk.agg _ _ ?_ | refine Wk.tup _ _ ?_ | refine WkL.cons _ _ _ _ ?_ ?_ | exact WkL.nil))
    · intro i s h; exact h.elim
    · intro s h; exact h.elim

end Go.Proofs.Ytacmddgliagpcaa
