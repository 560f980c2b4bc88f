/- What the functions answer, the program answers (9). -/
import Derived.Test.YtacmddgliagpcaaAgC
import Derived.Test.YtacmddgliagpcaaAgF
import Derived.Test.YtacmddgliagpcaaAgK1
import Derived.Test.YtacmddgliagpcaaAgK8
namespace Go.Proofs.Ytacmddgliagpcaa
set_option linter.unusedSimpArgs false
set_option linter.unusedVariables false
open Go
set_option maxRecDepth 100000

theorem place_Pos_ok (n_1 : api_Node) (s_2 : place_Spot) (R : (Int × Int)) (hh : place_Pos n_1 s_2 = some R) : PC Try.prog 8 [.agg [.str n_1.Kind, .str n_1.Text, .list 1 (n_1.Marks.map PV.str), .list 2 (n_1.Attrs.map api_Attr.pv), .list 5 (n_1.Kids.map api_Node.pv)], .agg [.list 1 (s_2.Path.map (PV.int .i64)), .int .i64 s_2.Index, .int .i64 s_2.Offset]] (.tup [.int .i64 R.1, .int .i64 R.2]) := by
  rw [place_Pos] at hh
  refine start_place_Pos rfl ?_
  refine awp_first fun K kk hK => ?_
  simp only [go_sem, ↓reduceIte, reduceCtorEq, Nat.reduceEqDiff, Nat.reduceAdd, Nat.reduceMul, Nat.reduceSub, Nat.reduceLT, Nat.reduceLeDiff, Nat.reducePow, Nat.reduceBEq, Nat.reduceBNe, Int.reduceNeg, Int.reduceBEq, Int.reduceBNe, Int.reduceAdd, Int.reduceSub, Int.reduceMul, Int.reduceLT, Int.reduceLE, Int.reduceToNat, Int.reduceEq, Int.reduceNe, List.take_length, take_map_len, runesOf_eq, runeBytes_map, an_place_Pos, nf_place_Pos, fp_place_Pos, ty3, ty9, ty23, ty25, ty27, ty28, ty29, ty31, ty33, ty58, diptychlaw4_Cell.pv_eq, place_Spot.pv_eq, api_Attr.pv_eq, api_Node.pv_eq, diptychref4_Spot.pv_eq, pvL, List.map_nil]
  refine hK _ _ fun nx => ?_; clear hK K; try clear kk
  obtain ⟨⟨r_3, r_4⟩, h1, hh⟩ := bind_ex hh
  dsimp only at hh
  refine awp_first fun K kk hK => ?_
  simp only [go_sem, ↓reduceIte, reduceCtorEq, Nat.reduceEqDiff, Nat.reduceAdd, Nat.reduceMul, Nat.reduceSub, Nat.reduceLT, Nat.reduceLeDiff, Nat.reducePow, Nat.reduceBEq, Nat.reduceBNe, Int.reduceNeg, Int.reduceBEq, Int.reduceBNe, Int.reduceAdd, Int.reduceSub, Int.reduceMul, Int.reduceLT, Int.reduceLE, Int.reduceToNat, Int.reduceEq, Int.reduceNe, List.take_length, take_map_len, runesOf_eq, runeBytes_map, an_place_Pos, nf_place_Pos, fp_place_Pos, ty3, ty9, ty23, ty25, ty27, ty28, ty29, ty31, ty33, ty58, diptychlaw4_Cell.pv_eq, place_Spot.pv_eq, api_Attr.pv_eq, api_Node.pv_eq, diptychref4_Spot.pv_eq, pvL, List.map_nil]
  refine step_call2 (place_Start_ok _ _ _ h1) (by try simp only [go_sem, ↓reduceIte, reduceCtorEq, Nat.reduceEqDiff, Nat.reduceAdd, Nat.reduceMul, Nat.reduceSub, Nat.reduceLT, Nat.reduceLeDiff, Nat.reducePow, Nat.reduceBEq, Nat.reduceBNe, Int.reduceNeg, Int.reduceBEq, Int.reduceBNe, Int.reduceAdd, Int.reduceSub, Int.reduceMul, Int.reduceLT, Int.reduceLE, Int.reduceToNat, Int.reduceEq, Int.reduceNe, List.take_length, take_map_len, runesOf_eq, runeBytes_map, an_place_Pos, nf_place_Pos, fp_place_Pos, ty3, ty9, ty23, ty25, ty27, ty28, ty29, ty31, ty33, ty58, diptychlaw4_Cell.pv_eq, place_Spot.pv_eq, api_Attr.pv_eq, api_Node.pv_eq, diptychref4_Spot.pv_eq, pvL, List.map_nil]; (repeat (first | exact WkL.refl _ | exact Wk.refl _ | exact Wk.nil _ | refine WkL.cons _ _ _ _ ?_ ?_ | exact WkL.nil | refine Wk.agg _ _ ?_ | refine Wk.tup _ _ ?_))) (by rfl) (by rfl) ?_
  simp only [go_sem, ↓reduceIte, reduceCtorEq, Nat.reduceEqDiff, Nat.reduceAdd, Nat.reduceMul, Nat.reduceSub, Nat.reduceLT, Nat.reduceLeDiff, Nat.reducePow, Nat.reduceBEq, Nat.reduceBNe, Int.reduceNeg, Int.reduceBEq, Int.reduceBNe, Int.reduceAdd, Int.reduceSub, Int.reduceMul, Int.reduceLT, Int.reduceLE, Int.reduceToNat, Int.reduceEq, Int.reduceNe, List.take_length, take_map_len, runesOf_eq, runeBytes_map, an_place_Pos, nf_place_Pos, fp_place_Pos, ty3, ty9, ty23, ty25, ty27, ty28, ty29, ty31, ty33, ty58, diptychlaw4_Cell.pv_eq, place_Spot.pv_eq, api_Attr.pv_eq, api_Node.pv_eq, diptychref4_Spot.pv_eq, pvL, List.map_nil]
  refine hK _ _ fun nx => ?_; clear hK K; try clear kk
  refine awp_seq ?_
  refine awp_first fun K kk hK => ?_
  simp only [go_sem, ↓reduceIte, reduceCtorEq, Nat.reduceEqDiff, Nat.reduceAdd, Nat.reduceMul, Nat.reduceSub, Nat.reduceLT, Nat.reduceLeDiff, Nat.reducePow, Nat.reduceBEq, Nat.reduceBNe, Int.reduceNeg, Int.reduceBEq, Int.reduceBNe, Int.reduceAdd, Int.reduceSub, Int.reduceMul, Int.reduceLT, Int.reduceLE, Int.reduceToNat, Int.reduceEq, Int.reduceNe, List.take_length, take_map_len, runesOf_eq, runeBytes_map, an_place_Pos, nf_place_Pos, fp_place_Pos, ty3, ty9, ty23, ty25, ty27, ty28, ty29, ty31, ty33, ty58, diptychlaw4_Cell.pv_eq, place_Spot.pv_eq, api_Attr.pv_eq, api_Node.pv_eq, diptychref4_Spot.pv_eq, pvL, List.map_nil]
  refine hK _ _ fun nx => ?_; clear hK K; try clear kk
  by_cases h2 : (r_4 != (0 : Int)) = true
  · rw [if_pos h2] at hh
    refine awp_true (by first | exact congrArg PV.bool h2 | rfl) ?_
    refine awp_first fun K kk hK => ?_
    simp only [go_sem, ↓reduceIte, reduceCtorEq, Nat.reduceEqDiff, Nat.reduceAdd, Nat.reduceMul, Nat.reduceSub, Nat.reduceLT, Nat.reduceLeDiff, Nat.reducePow, Nat.reduceBEq, Nat.reduceBNe, Int.reduceNeg, Int.reduceBEq, Int.reduceBNe, Int.reduceAdd, Int.reduceSub, Int.reduceMul, Int.reduceLT, Int.reduceLE, Int.reduceToNat, Int.reduceEq, Int.reduceNe, List.take_length, take_map_len, runesOf_eq, runeBytes_map, an_place_Pos, nf_place_Pos, fp_place_Pos, ty3, ty9, ty23, ty25, ty27, ty28, ty29, ty31, ty33, ty58, diptychlaw4_Cell.pv_eq, place_Spot.pv_eq, api_Attr.pv_eq, api_Node.pv_eq, diptychref4_Spot.pv_eq, pvL, List.map_nil]
    refine hK _ _ fun nx => ?_; clear hK K; try clear kk
    refine awp_ret ?_; (repeat (with_reducible first | refine then_n ?_ | refine then_r ?_ | refine then_e ?_ | refine block_n ?_ | refine block_r ?_ | refine exit_here ?_ | refine exit_on rfl ?_ | refine scope_n ?_ | refine scope_r ?_ | refine scope_e ?_ | refine cut_awp ?_))
    obtain hR := Option.some.inj hh
    subst hR
    refine ret_pure2 ?_ (by rfl)
    simp only [go_sem, ↓reduceIte, reduceCtorEq, Nat.reduceEqDiff, Nat.reduceAdd, Nat.reduceMul, Nat.reduceSub, Nat.reduceLT, Nat.reduceLeDiff, Nat.reducePow, Nat.reduceBEq, Nat.reduceBNe, Int.reduceNeg, Int.reduceBEq, Int.reduceBNe, Int.reduceAdd, Int.reduceSub, Int.reduceMul, Int.reduceLT, Int.reduceLE, Int.reduceToNat, Int.reduceEq, Int.reduceNe, List.take_length, take_map_len, runesOf_eq, runeBytes_map, an_place_Pos, nf_place_Pos, fp_place_Pos, ty3, ty9, ty23, ty25, ty27, ty28, ty29, ty31, ty33, ty58, diptychlaw4_Cell.pv_eq, place_Spot.pv_eq, api_Attr.pv_eq, api_Node.pv_eq, diptychref4_Spot.pv_eq, pvL, List.map_nil, rvsRes, rvRes, cellRes, tupOf, pur2, List.map_cons, List.map_append, List.head?_cons]
    (repeat (first | exact Wk.refl _ | exact WkL.refl _ | exact Wk.nil _ | refine Wk.agg _ _ ?_ | refine Wk.tup _ _ ?_ | refine WkL.cons _ _ _ _ ?_ ?_ | exact WkL.nil))
  · rw [if_neg h2] at hh
    replace h2 := Bool.eq_false_iff.mpr h2
    refine awp_false (by first | exact congrArg PV.bool h2 | rfl) ?_
    refine awp_skip ?_; (repeat (with_reducible first | refine then_n ?_ | refine then_r ?_ | refine then_e ?_ | refine block_n ?_ | refine block_r ?_ | refine exit_here ?_ | refine exit_on rfl ?_ | refine scope_n ?_ | refine scope_r ?_ | refine scope_e ?_ | refine cut_awp ?_))
    obtain ⟨⟨r_5, r_6⟩, h3, hh⟩ := bind_ex hh
    dsimp only at hh
    refine awp_first fun K kk hK => ?_
    simp only [go_sem, ↓reduceIte, reduceCtorEq, Nat.reduceEqDiff, Nat.reduceAdd, Nat.reduceMul, Nat.reduceSub, Nat.reduceLT, Nat.reduceLeDiff, Nat.reducePow, Nat.reduceBEq, Nat.reduceBNe, Int.reduceNeg, Int.reduceBEq, Int.reduceBNe, Int.reduceAdd, Int.reduceSub, Int.reduceMul, Int.reduceLT, Int.reduceLE, Int.reduceToNat, Int.reduceEq, Int.reduceNe, List.take_length, take_map_len, runesOf_eq, runeBytes_map, an_place_Pos, nf_place_Pos, fp_place_Pos, ty3, ty9, ty23, ty25, ty27, ty28, ty29, ty31, ty33, ty58, diptychlaw4_Cell.pv_eq, place_Spot.pv_eq, api_Attr.pv_eq, api_Node.pv_eq, diptychref4_Spot.pv_eq, pvL, List.map_nil]
    refine step_call2 (place_Inner_ok _ _ _ h3) (by try simp only [go_sem, ↓reduceIte, reduceCtorEq, Nat.reduceEqDiff, Nat.reduceAdd, Nat.reduceMul, Nat.reduceSub, Nat.reduceLT, Nat.reduceLeDiff, Nat.reducePow, Nat.reduceBEq, Nat.reduceBNe, Int.reduceNeg, Int.reduceBEq, Int.reduceBNe, Int.reduceAdd, Int.reduceSub, Int.reduceMul, Int.reduceLT, Int.reduceLE, Int.reduceToNat, Int.reduceEq, Int.reduceNe, List.take_length, take_map_len, runesOf_eq, runeBytes_map, an_place_Pos, nf_place_Pos, fp_place_Pos, ty3, ty9, ty23, ty25, ty27, ty28, ty29, ty31, ty33, ty58, diptychlaw4_Cell.pv_eq, place_Spot.pv_eq, api_Attr.pv_eq, api_Node.pv_eq, diptychref4_Spot.pv_eq, pvL, List.map_nil]; (repeat (first | exact WkL.refl _ | exact Wk.refl _ | exact Wk.nil _ | refine WkL.cons _ _ _ _ ?_ ?_ | exact WkL.nil | refine Wk.agg _ _ ?_ | refine Wk.tup _ _ ?_))) (by rfl) (by rfl) ?_
    simp only [go_sem, ↓reduceIte, reduceCtorEq, Nat.reduceEqDiff, Nat.reduceAdd, Nat.reduceMul, Nat.reduceSub, Nat.reduceLT, Nat.reduceLeDiff, Nat.reducePow, Nat.reduceBEq, Nat.reduceBNe, Int.reduceNeg, Int.reduceBEq, Int.reduceBNe, Int.reduceAdd, Int.reduceSub, Int.reduceMul, Int.reduceLT, Int.reduceLE, Int.reduceToNat, Int.reduceEq, Int.reduceNe, List.take_length, take_map_len, runesOf_eq, runeBytes_map, an_place_Pos, nf_place_Pos, fp_place_Pos, ty3, ty9, ty23, ty25, ty27, ty28, ty29, ty31, ty33, ty58, diptychlaw4_Cell.pv_eq, place_Spot.pv_eq, api_Attr.pv_eq, api_Node.pv_eq, diptychref4_Spot.pv_eq, pvL, List.map_nil]
    refine hK _ _ fun nx => ?_; clear hK K; try clear kk
    refine awp_seq ?_
    refine awp_block ?_
    by_cases h4 : (decide (s_2.Index < (0 : Int))) = true
    · rw [if_pos h4] at hh
      refine awp_first fun K kk hK => ?_
      simp only [go_sem, ↓reduceIte, reduceCtorEq, Nat.reduceEqDiff, Nat.reduceAdd, Nat.reduceMul, Nat.reduceSub, Nat.reduceLT, Nat.reduceLeDiff, Nat.reducePow, Nat.reduceBEq, Nat.reduceBNe, Int.reduceNeg, Int.reduceBEq, Int.reduceBNe, Int.reduceAdd, Int.reduceSub, Int.reduceMul, Int.reduceLT, Int.reduceLE, Int.reduceToNat, Int.reduceEq, Int.reduceNe, List.take_length, take_map_len, runesOf_eq, runeBytes_map, an_place_Pos, nf_place_Pos, fp_place_Pos, ty3, ty9, ty23, ty25, ty27, ty28, ty29, ty31, ty33, ty58, diptychlaw4_Cell.pv_eq, place_Spot.pv_eq, api_Attr.pv_eq, api_Node.pv_eq, diptychref4_Spot.pv_eq, pvL, List.map_nil, h4, of_decide_eq_true h4, h4, of_decide_eq_true h4]
      (repeat (refine And.intro ?_ ?_; focus (first | assumption | (try simp only [List.length_append, List.length_cons, List.length_nil] at *; omega))))
      refine hK _ _ fun nx => ?_; clear hK K; try clear kk
      refine awp_true rfl ?_
      refine awp_first fun K kk hK => ?_
      simp only [go_sem, ↓reduceIte, reduceCtorEq, Nat.reduceEqDiff, Nat.reduceAdd, Nat.reduceMul, Nat.reduceSub, Nat.reduceLT, Nat.reduceLeDiff, Nat.reducePow, Nat.reduceBEq, Nat.reduceBNe, Int.reduceNeg, Int.reduceBEq, Int.reduceBNe, Int.reduceAdd, Int.reduceSub, Int.reduceMul, Int.reduceLT, Int.reduceLE, Int.reduceToNat, Int.reduceEq, Int.reduceNe, List.take_length, take_map_len, runesOf_eq, runeBytes_map, an_place_Pos, nf_place_Pos, fp_place_Pos, ty3, ty9, ty23, ty25, ty27, ty28, ty29, ty31, ty33, ty58, diptychlaw4_Cell.pv_eq, place_Spot.pv_eq, api_Attr.pv_eq, api_Node.pv_eq, diptychref4_Spot.pv_eq, pvL, List.map_nil]
      refine hK _ _ fun nx => ?_; clear hK K; try clear kk
      refine awp_ret ?_; (repeat (with_reducible first | refine then_n ?_ | refine then_r ?_ | refine then_e ?_ | refine block_n ?_ | refine block_r ?_ | refine exit_here ?_ | refine exit_on rfl ?_ | refine scope_n ?_ | refine scope_r ?_ | refine scope_e ?_ | refine cut_awp ?_))
      obtain hR := Option.some.inj hh
      subst hR
      refine ret_pure2 ?_ (by rfl)
      simp only [go_sem, ↓reduceIte, reduceCtorEq, Nat.reduceEqDiff, Nat.reduceAdd, Nat.reduceMul, Nat.reduceSub, Nat.reduceLT, Nat.reduceLeDiff, Nat.reducePow, Nat.reduceBEq, Nat.reduceBNe, Int.reduceNeg, Int.reduceBEq, Int.reduceBNe, Int.reduceAdd, Int.reduceSub, Int.reduceMul, Int.reduceLT, Int.reduceLE, Int.reduceToNat, Int.reduceEq, Int.reduceNe, List.take_length, take_map_len, runesOf_eq, runeBytes_map, an_place_Pos, nf_place_Pos, fp_place_Pos, ty3, ty9, ty23, ty25, ty27, ty28, ty29, ty31, ty33, ty58, diptychlaw4_Cell.pv_eq, place_Spot.pv_eq, api_Attr.pv_eq, api_Node.pv_eq, diptychref4_Spot.pv_eq, pvL, List.map_nil, rvsRes, rvRes, cellRes, tupOf, pur2, List.map_cons, List.map_append, List.head?_cons]
      (repeat (first | exact Wk.refl _ | exact WkL.refl _ | exact Wk.nil _ | refine Wk.agg _ _ ?_ | refine Wk.tup _ _ ?_ | refine WkL.cons _ _ _ _ ?_ ?_ | exact WkL.nil))
    · rw [if_neg h4] at hh
      replace h4 := Bool.eq_false_iff.mpr h4
      by_cases h5 : (decide (s_2.Index > (r_5.Kids.length : Int))) = true
      · rw [if_pos h5] at hh
        refine awp_first fun K kk hK => ?_
        simp only [go_sem, ↓reduceIte, reduceCtorEq, Nat.reduceEqDiff, Nat.reduceAdd, Nat.reduceMul, Nat.reduceSub, Nat.reduceLT, Nat.reduceLeDiff, Nat.reducePow, Nat.reduceBEq, Nat.reduceBNe, Int.reduceNeg, Int.reduceBEq, Int.reduceBNe, Int.reduceAdd, Int.reduceSub, Int.reduceMul, Int.reduceLT, Int.reduceLE, Int.reduceToNat, Int.reduceEq, Int.reduceNe, List.take_length, take_map_len, runesOf_eq, runeBytes_map, an_place_Pos, nf_place_Pos, fp_place_Pos, ty3, ty9, ty23, ty25, ty27, ty28, ty29, ty31, ty33, ty58, diptychlaw4_Cell.pv_eq, place_Spot.pv_eq, api_Attr.pv_eq, api_Node.pv_eq, diptychref4_Spot.pv_eq, pvL, List.map_nil, h4, of_decide_eq_false h4, h4, of_decide_eq_false h4, h5, of_decide_eq_true h5, h5, of_decide_eq_true h5]
        (repeat (refine And.intro ?_ ?_; focus (first | assumption | (try simp only [List.length_append, List.length_cons, List.length_nil] at *; omega))))
        refine hK _ _ fun nx => ?_; clear hK K; try clear kk
        refine awp_true rfl ?_
        refine awp_first fun K kk hK => ?_
        simp only [go_sem, ↓reduceIte, reduceCtorEq, Nat.reduceEqDiff, Nat.reduceAdd, Nat.reduceMul, Nat.reduceSub, Nat.reduceLT, Nat.reduceLeDiff, Nat.reducePow, Nat.reduceBEq, Nat.reduceBNe, Int.reduceNeg, Int.reduceBEq, Int.reduceBNe, Int.reduceAdd, Int.reduceSub, Int.reduceMul, Int.reduceLT, Int.reduceLE, Int.reduceToNat, Int.reduceEq, Int.reduceNe, List.take_length, take_map_len, runesOf_eq, runeBytes_map, an_place_Pos, nf_place_Pos, fp_place_Pos, ty3, ty9, ty23, ty25, ty27, ty28, ty29, ty31, ty33, ty58, diptychlaw4_Cell.pv_eq, place_Spot.pv_eq, api_Attr.pv_eq, api_Node.pv_eq, diptychref4_Spot.pv_eq, pvL, List.map_nil]
        refine hK _ _ fun nx => ?_; clear hK K; try clear kk
        refine awp_ret ?_; (repeat (with_reducible first | refine then_n ?_ | refine then_r ?_ | refine then_e ?_ | refine block_n ?_ | refine block_r ?_ | refine exit_here ?_ | refine exit_on rfl ?_ | refine scope_n ?_ | refine scope_r ?_ | refine scope_e ?_ | refine cut_awp ?_))
        obtain hR := Option.some.inj hh
        subst hR
        refine ret_pure2 ?_ (by rfl)
        simp only [go_sem, ↓reduceIte, reduceCtorEq, Nat.reduceEqDiff, Nat.reduceAdd, Nat.reduceMul, Nat.reduceSub, Nat.reduceLT, Nat.reduceLeDiff, Nat.reducePow, Nat.reduceBEq, Nat.reduceBNe, Int.reduceNeg, Int.reduceBEq, Int.reduceBNe, Int.reduceAdd, Int.reduceSub, Int.reduceMul, Int.reduceLT, Int.reduceLE, Int.reduceToNat, Int.reduceEq, Int.reduceNe, List.take_length, take_map_len, runesOf_eq, runeBytes_map, an_place_Pos, nf_place_Pos, fp_place_Pos, ty3, ty9, ty23, ty25, ty27, ty28, ty29, ty31, ty33, ty58, diptychlaw4_Cell.pv_eq, place_Spot.pv_eq, api_Attr.pv_eq, api_Node.pv_eq, diptychref4_Spot.pv_eq, pvL, List.map_nil, rvsRes, rvRes, cellRes, tupOf, pur2, List.map_cons, List.map_append, List.head?_cons]
        (repeat (first | exact Wk.refl _ | exact WkL.refl _ | exact Wk.nil _ | refine Wk.agg _ _ ?_ | refine Wk.tup _ _ ?_ | refine WkL.cons _ _ _ _ ?_ ?_ | exact WkL.nil))
      · rw [if_neg h5] at hh
        replace h5 := Bool.eq_false_iff.mpr h5
        refine awp_first fun K kk hK => ?_
        simp only [go_sem, ↓reduceIte, reduceCtorEq, Nat.reduceEqDiff, Nat.reduceAdd, Nat.reduceMul, Nat.reduceSub, Nat.reduceLT, Nat.reduceLeDiff, Nat.reducePow, Nat.reduceBEq, Nat.reduceBNe, Int.reduceNeg, Int.reduceBEq, Int.reduceBNe, Int.reduceAdd, Int.reduceSub, Int.reduceMul, Int.reduceLT, Int.reduceLE, Int.reduceToNat, Int.reduceEq, Int.reduceNe, List.take_length, take_map_len, runesOf_eq, runeBytes_map, an_place_Pos, nf_place_Pos, fp_place_Pos, ty3, ty9, ty23, ty25, ty27, ty28, ty29, ty31, ty33, ty58, diptychlaw4_Cell.pv_eq, place_Spot.pv_eq, api_Attr.pv_eq, api_Node.pv_eq, diptychref4_Spot.pv_eq, pvL, List.map_nil, h4, of_decide_eq_false h4, h4, of_decide_eq_false h4, h5, of_decide_eq_false h5, h5, of_decide_eq_false h5]
        (repeat (refine And.intro ?_ ?_; focus (first | assumption | (try simp only [List.length_append, List.length_cons, List.length_nil] at *; omega))))
        refine hK _ _ fun nx => ?_; clear hK K; try clear kk
        by_cases h6 : (decide (s_2.Offset < (0 : Int))) = true
        · rw [if_pos h6] at hh
          refine awp_true (by first | exact congrArg PV.bool h6 | rfl) ?_
          refine awp_first fun K kk hK => ?_
          simp only [go_sem, ↓reduceIte, reduceCtorEq, Nat.reduceEqDiff, Nat.reduceAdd, Nat.reduceMul, Nat.reduceSub, Nat.reduceLT, Nat.reduceLeDiff, Nat.reducePow, Nat.reduceBEq, Nat.reduceBNe, Int.reduceNeg, Int.reduceBEq, Int.reduceBNe, Int.reduceAdd, Int.reduceSub, Int.reduceMul, Int.reduceLT, Int.reduceLE, Int.reduceToNat, Int.reduceEq, Int.reduceNe, List.take_length, take_map_len, runesOf_eq, runeBytes_map, an_place_Pos, nf_place_Pos, fp_place_Pos, ty3, ty9, ty23, ty25, ty27, ty28, ty29, ty31, ty33, ty58, diptychlaw4_Cell.pv_eq, place_Spot.pv_eq, api_Attr.pv_eq, api_Node.pv_eq, diptychref4_Spot.pv_eq, pvL, List.map_nil]
          refine hK _ _ fun nx => ?_; clear hK K; try clear kk
          refine awp_ret ?_; (repeat (with_reducible first | refine then_n ?_ | refine then_r ?_ | refine then_e ?_ | refine block_n ?_ | refine block_r ?_ | refine exit_here ?_ | refine exit_on rfl ?_ | refine scope_n ?_ | refine scope_r ?_ | refine scope_e ?_ | refine cut_awp ?_))
          obtain hR := Option.some.inj hh
          subst hR
          refine ret_pure2 ?_ (by rfl)
          simp only [go_sem, ↓reduceIte, reduceCtorEq, Nat.reduceEqDiff, Nat.reduceAdd, Nat.reduceMul, Nat.reduceSub, Nat.reduceLT, Nat.reduceLeDiff, Nat.reducePow, Nat.reduceBEq, Nat.reduceBNe, Int.reduceNeg, Int.reduceBEq, Int.reduceBNe, Int.reduceAdd, Int.reduceSub, Int.reduceMul, Int.reduceLT, Int.reduceLE, Int.reduceToNat, Int.reduceEq, Int.reduceNe, List.take_length, take_map_len, runesOf_eq, runeBytes_map, an_place_Pos, nf_place_Pos, fp_place_Pos, ty3, ty9, ty23, ty25, ty27, ty28, ty29, ty31, ty33, ty58, diptychlaw4_Cell.pv_eq, place_Spot.pv_eq, api_Attr.pv_eq, api_Node.pv_eq, diptychref4_Spot.pv_eq, pvL, List.map_nil, rvsRes, rvRes, cellRes, tupOf, pur2, List.map_cons, List.map_append, List.head?_cons]
          (repeat (first | exact Wk.refl _ | exact WkL.refl _ | exact Wk.nil _ | refine Wk.agg _ _ ?_ | refine Wk.tup _ _ ?_ | refine WkL.cons _ _ _ _ ?_ ?_ | exact WkL.nil))
        · rw [if_neg h6] at hh
          replace h6 := Bool.eq_false_iff.mpr h6
          refine awp_false (by first | exact congrArg PV.bool h6 | rfl) ?_
          by_cases h7 : (decide (s_2.Offset > (0 : Int))) = true
          · rw [if_pos h7] at hh
            by_cases h8 : (s_2.Index == (r_5.Kids.length : Int)) = true
            · rw [if_pos h8] at hh
              refine awp_first fun K kk hK => ?_
              simp only [go_sem, ↓reduceIte, reduceCtorEq, Nat.reduceEqDiff, Nat.reduceAdd, Nat.reduceMul, Nat.reduceSub, Nat.reduceLT, Nat.reduceLeDiff, Nat.reducePow, Nat.reduceBEq, Nat.reduceBNe, Int.reduceNeg, Int.reduceBEq, Int.reduceBNe, Int.reduceAdd, Int.reduceSub, Int.reduceMul, Int.reduceLT, Int.reduceLE, Int.reduceToNat, Int.reduceEq, Int.reduceNe, List.take_length, take_map_len, runesOf_eq, runeBytes_map, an_place_Pos, nf_place_Pos, fp_place_Pos, ty3, ty9, ty23, ty25, ty27, ty28, ty29, ty31, ty33, ty58, diptychlaw4_Cell.pv_eq, place_Spot.pv_eq, api_Attr.pv_eq, api_Node.pv_eq, diptychref4_Spot.pv_eq, pvL, List.map_nil, h7, of_decide_eq_true h7, h8, h8, h7, of_decide_eq_true h7]
              (repeat (refine And.intro ?_ ?_; focus (first | assumption | (try simp only [List.length_append, List.length_cons, List.length_nil] at *; omega))))
              refine hK _ _ fun nx => ?_; clear hK K; try clear kk
              refine awp_true rfl ?_
              refine awp_first fun K kk hK => ?_
              simp only [go_sem, ↓reduceIte, reduceCtorEq, Nat.reduceEqDiff, Nat.reduceAdd, Nat.reduceMul, Nat.reduceSub, Nat.reduceLT, Nat.reduceLeDiff, Nat.reducePow, Nat.reduceBEq, Nat.reduceBNe, Int.reduceNeg, Int.reduceBEq, Int.reduceBNe, Int.reduceAdd, Int.reduceSub, Int.reduceMul, Int.reduceLT, Int.reduceLE, Int.reduceToNat, Int.reduceEq, Int.reduceNe, List.take_length, take_map_len, runesOf_eq, runeBytes_map, an_place_Pos, nf_place_Pos, fp_place_Pos, ty3, ty9, ty23, ty25, ty27, ty28, ty29, ty31, ty33, ty58, diptychlaw4_Cell.pv_eq, place_Spot.pv_eq, api_Attr.pv_eq, api_Node.pv_eq, diptychref4_Spot.pv_eq, pvL, List.map_nil]
              refine hK _ _ fun nx => ?_; clear hK K; try clear kk
              refine awp_ret ?_; (repeat (with_reducible first | refine then_n ?_ | refine then_r ?_ | refine then_e ?_ | refine block_n ?_ | refine block_r ?_ | refine exit_here ?_ | refine exit_on rfl ?_ | refine scope_n ?_ | refine scope_r ?_ | refine scope_e ?_ | refine cut_awp ?_))
              obtain hR := Option.some.inj hh
              subst hR
              refine ret_pure2 ?_ (by rfl)
              simp only [go_sem, ↓reduceIte, reduceCtorEq, Nat.reduceEqDiff, Nat.reduceAdd, Nat.reduceMul, Nat.reduceSub, Nat.reduceLT, Nat.reduceLeDiff, Nat.reducePow, Nat.reduceBEq, Nat.reduceBNe, Int.reduceNeg, Int.reduceBEq, Int.reduceBNe, Int.reduceAdd, Int.reduceSub, Int.reduceMul, Int.reduceLT, Int.reduceLE, Int.reduceToNat, Int.reduceEq, Int.reduceNe, List.take_length, take_map_len, runesOf_eq, runeBytes_map, an_place_Pos, nf_place_Pos, fp_place_Pos, ty3, ty9, ty23, ty25, ty27, ty28, ty29, ty31, ty33, ty58, diptychlaw4_Cell.pv_eq, place_Spot.pv_eq, api_Attr.pv_eq, api_Node.pv_eq, diptychref4_Spot.pv_eq, pvL, List.map_nil, rvsRes, rvRes, cellRes, tupOf, pur2, List.map_cons, List.map_append, List.head?_cons]
              (repeat (first | exact Wk.refl _ | exact WkL.refl _ | exact Wk.nil _ | refine Wk.agg _ _ ?_ | refine Wk.tup _ _ ?_ | refine WkL.cons _ _ _ _ ?_ ?_ | exact WkL.nil))
            · rw [if_neg h8] at hh
              replace h8 := Bool.eq_false_iff.mpr h8
              obtain ⟨x_7, h9, hh⟩ := bind_ex hh
              obtain ⟨h9a, h9b, h9c⟩ := rd_some h9
              have h9d := rd_get (f := api_Node.pv) h9c
              have h9f := rd_more (f := api_Node.pv) h9c
              try simp only [Int.toNat_natCast, Int.reduceToNat] at h9d h9f
              by_cases h10 : (!(x_7.Kind == ([116, 101, 120, 116] : Str))) = true
              · rw [if_pos h10] at hh
                refine awp_first fun K kk hK => ?_
                simp only [go_sem, ↓reduceIte, reduceCtorEq, Nat.reduceEqDiff, Nat.reduceAdd, Nat.reduceMul, Nat.reduceSub, Nat.reduceLT, Nat.reduceLeDiff, Nat.reducePow, Nat.reduceBEq, Nat.reduceBNe, Int.reduceNeg, Int.reduceBEq, Int.reduceBNe, Int.reduceAdd, Int.reduceSub, Int.reduceMul, Int.reduceLT, Int.reduceLE, Int.reduceToNat, Int.reduceEq, Int.reduceNe, List.take_length, take_map_len, runesOf_eq, runeBytes_map, an_place_Pos, nf_place_Pos, fp_place_Pos, ty3, ty9, ty23, ty25, ty27, ty28, ty29, ty31, ty33, ty58, diptychlaw4_Cell.pv_eq, place_Spot.pv_eq, api_Attr.pv_eq, api_Node.pv_eq, diptychref4_Spot.pv_eq, pvL, List.map_nil, h7, of_decide_eq_true h7, h8, h9a, h9b, h9d, h9f.1, h9f.2, h8, h10, h10, h7, of_decide_eq_true h7]
                (repeat (refine And.intro ?_ ?_; focus (first | assumption | (try simp only [List.length_append, List.length_cons, List.length_nil] at *; omega))))
                refine hK _ _ fun nx => ?_; clear hK K; try clear kk
                refine awp_true rfl ?_
                refine awp_first fun K kk hK => ?_
                simp only [go_sem, ↓reduceIte, reduceCtorEq, Nat.reduceEqDiff, Nat.reduceAdd, Nat.reduceMul, Nat.reduceSub, Nat.reduceLT, Nat.reduceLeDiff, Nat.reducePow, Nat.reduceBEq, Nat.reduceBNe, Int.reduceNeg, Int.reduceBEq, Int.reduceBNe, Int.reduceAdd, Int.reduceSub, Int.reduceMul, Int.reduceLT, Int.reduceLE, Int.reduceToNat, Int.reduceEq, Int.reduceNe, List.take_length, take_map_len, runesOf_eq, runeBytes_map, an_place_Pos, nf_place_Pos, fp_place_Pos, ty3, ty9, ty23, ty25, ty27, ty28, ty29, ty31, ty33, ty58, diptychlaw4_Cell.pv_eq, place_Spot.pv_eq, api_Attr.pv_eq, api_Node.pv_eq, diptychref4_Spot.pv_eq, pvL, List.map_nil]
                refine hK _ _ fun nx => ?_; clear hK K; try clear kk
                refine awp_ret ?_; (repeat (with_reducible first | refine then_n ?_ | refine then_r ?_ | refine then_e ?_ | refine block_n ?_ | refine block_r ?_ | refine exit_here ?_ | refine exit_on rfl ?_ | refine scope_n ?_ | refine scope_r ?_ | refine scope_e ?_ | refine cut_awp ?_))
                obtain hR := Option.some.inj hh
                subst hR
                refine ret_pure2 ?_ (by rfl)
                simp only [go_sem, ↓reduceIte, reduceCtorEq, Nat.reduceEqDiff, Nat.reduceAdd, Nat.reduceMul, Nat.reduceSub, Nat.reduceLT, Nat.reduceLeDiff, Nat.reducePow, Nat.reduceBEq, Nat.reduceBNe, Int.reduceNeg, Int.reduceBEq, Int.reduceBNe, Int.reduceAdd, Int.reduceSub, Int.reduceMul, Int.reduceLT, Int.reduceLE, Int.reduceToNat, Int.reduceEq, Int.reduceNe, List.take_length, take_map_len, runesOf_eq, runeBytes_map, an_place_Pos, nf_place_Pos, fp_place_Pos, ty3, ty9, ty23, ty25, ty27, ty28, ty29, ty31, ty33, ty58, diptychlaw4_Cell.pv_eq, place_Spot.pv_eq, api_Attr.pv_eq, api_Node.pv_eq, diptychref4_Spot.pv_eq, pvL, List.map_nil, rvsRes, rvRes, cellRes, tupOf, pur2, List.map_cons, List.map_append, List.head?_cons]
                (repeat (first | exact Wk.refl _ | exact WkL.refl _ | exact Wk.nil _ | refine Wk.agg _ _ ?_ | refine Wk.tup _ _ ?_ | refine WkL.cons _ _ _ _ ?_ ?_ | exact WkL.nil))
              · rw [if_neg h10] at hh
                replace h10 := Bool.eq_false_iff.mpr h10
                obtain ⟨size_8, h11, hh⟩ := bind_ex hh
                refine awp_first fun K kk hK => ?_
                simp only [go_sem, ↓reduceIte, reduceCtorEq, Nat.reduceEqDiff, Nat.reduceAdd, Nat.reduceMul, Nat.reduceSub, Nat.reduceLT, Nat.reduceLeDiff, Nat.reducePow, Nat.reduceBEq, Nat.reduceBNe, Int.reduceNeg, Int.reduceBEq, Int.reduceBNe, Int.reduceAdd, Int.reduceSub, Int.reduceMul, Int.reduceLT, Int.reduceLE, Int.reduceToNat, Int.reduceEq, Int.reduceNe, List.take_length, take_map_len, runesOf_eq, runeBytes_map, an_place_Pos, nf_place_Pos, fp_place_Pos, ty3, ty9, ty23, ty25, ty27, ty28, ty29, ty31, ty33, ty58, diptychlaw4_Cell.pv_eq, place_Spot.pv_eq, api_Attr.pv_eq, api_Node.pv_eq, diptychref4_Spot.pv_eq, pvL, List.map_nil, h7, of_decide_eq_true h7, h8, h9a, h9b, h9d, h9f.1, h9f.2, h8, h10, h9a, h9b, h9d, h9f.1, h9f.2, h10, h7, of_decide_eq_true h7]
                (repeat (refine And.intro ?_ ?_; focus (first | assumption | (try simp only [List.length_append, List.length_cons, List.length_nil] at *; omega))))
                refine step_call2 (node_Size_ok _ _ h11) (by try simp only [go_sem, ↓reduceIte, reduceCtorEq, Nat.reduceEqDiff, Nat.reduceAdd, Nat.reduceMul, Nat.reduceSub, Nat.reduceLT, Nat.reduceLeDiff, Nat.reducePow, Nat.reduceBEq, Nat.reduceBNe, Int.reduceNeg, Int.reduceBEq, Int.reduceBNe, Int.reduceAdd, Int.reduceSub, Int.reduceMul, Int.reduceLT, Int.reduceLE, Int.reduceToNat, Int.reduceEq, Int.reduceNe, List.take_length, take_map_len, runesOf_eq, runeBytes_map, an_place_Pos, nf_place_Pos, fp_place_Pos, ty3, ty9, ty23, ty25, ty27, ty28, ty29, ty31, ty33, ty58, diptychlaw4_Cell.pv_eq, place_Spot.pv_eq, api_Attr.pv_eq, api_Node.pv_eq, diptychref4_Spot.pv_eq, pvL, List.map_nil, h7, of_decide_eq_true h7, h8, h9a, h9b, h9d, h9f.1, h9f.2, h8, h10, h9a, h9b, h9d, h9f.1, h9f.2, h10, h7, of_decide_eq_true h7]; (repeat (first | exact WkL.refl _ | exact Wk.refl _ | exact Wk.nil _ | refine WkL.cons _ _ _ _ ?_ ?_ | exact WkL.nil | refine Wk.agg _ _ ?_ | refine Wk.tup _ _ ?_))) (by rfl) (by rfl) ?_
                simp only [go_sem, ↓reduceIte, reduceCtorEq, Nat.reduceEqDiff, Nat.reduceAdd, Nat.reduceMul, Nat.reduceSub, Nat.reduceLT, Nat.reduceLeDiff, Nat.reducePow, Nat.reduceBEq, Nat.reduceBNe, Int.reduceNeg, Int.reduceBEq, Int.reduceBNe, Int.reduceAdd, Int.reduceSub, Int.reduceMul, Int.reduceLT, Int.reduceLE, Int.reduceToNat, Int.reduceEq, Int.reduceNe, List.take_length, take_map_len, runesOf_eq, runeBytes_map, an_place_Pos, nf_place_Pos, fp_place_Pos, ty3, ty9, ty23, ty25, ty27, ty28, ty29, ty31, ty33, ty58, diptychlaw4_Cell.pv_eq, place_Spot.pv_eq, api_Attr.pv_eq, api_Node.pv_eq, diptychref4_Spot.pv_eq, pvL, List.map_nil, h7, of_decide_eq_true h7, h8, h9a, h9b, h9d, h9f.1, h9f.2, h8, h10, h9a, h9b, h9d, h9f.1, h9f.2, h10, h7, of_decide_eq_true h7]
                (repeat (refine And.intro ?_ ?_; focus (first | assumption | (try simp only [List.length_append, List.length_cons, List.length_nil] at *; omega))))
                refine hK _ _ fun nx => ?_; clear hK K; try clear kk
                by_cases h12 : (decide (s_2.Offset ≥ size_8)) = true
                · rw [if_pos h12] at hh
                  refine awp_true (by first | exact congrArg PV.bool h12 | rfl) ?_
                  refine awp_first fun K kk hK => ?_
                  simp only [go_sem, ↓reduceIte, reduceCtorEq, Nat.reduceEqDiff, Nat.reduceAdd, Nat.reduceMul, Nat.reduceSub, Nat.reduceLT, Nat.reduceLeDiff, Nat.reducePow, Nat.reduceBEq, Nat.reduceBNe, Int.reduceNeg, Int.reduceBEq, Int.reduceBNe, Int.reduceAdd, Int.reduceSub, Int.reduceMul, Int.reduceLT, Int.reduceLE, Int.reduceToNat, Int.reduceEq, Int.reduceNe, List.take_length, take_map_len, runesOf_eq, runeBytes_map, an_place_Pos, nf_place_Pos, fp_place_Pos, ty3, ty9, ty23, ty25, ty27, ty28, ty29, ty31, ty33, ty58, diptychlaw4_Cell.pv_eq, place_Spot.pv_eq, api_Attr.pv_eq, api_Node.pv_eq, diptychref4_Spot.pv_eq, pvL, List.map_nil]
                  refine hK _ _ fun nx => ?_; clear hK K; try clear kk
                  refine awp_ret ?_; (repeat (with_reducible first | refine then_n ?_ | refine then_r ?_ | refine then_e ?_ | refine block_n ?_ | refine block_r ?_ | refine exit_here ?_ | refine exit_on rfl ?_ | refine scope_n ?_ | refine scope_r ?_ | refine scope_e ?_ | refine cut_awp ?_))
                  obtain hR := Option.some.inj hh
                  subst hR
                  refine ret_pure2 ?_ (by rfl)
                  simp only [go_sem, ↓reduceIte, reduceCtorEq, Nat.reduceEqDiff, Nat.reduceAdd, Nat.reduceMul, Nat.reduceSub, Nat.reduceLT, Nat.reduceLeDiff, Nat.reducePow, Nat.reduceBEq, Nat.reduceBNe, Int.reduceNeg, Int.reduceBEq, Int.reduceBNe, Int.reduceAdd, Int.reduceSub, Int.reduceMul, Int.reduceLT, Int.reduceLE, Int.reduceToNat, Int.reduceEq, Int.reduceNe, List.take_length, take_map_len, runesOf_eq, runeBytes_map, an_place_Pos, nf_place_Pos, fp_place_Pos, ty3, ty9, ty23, ty25, ty27, ty28, ty29, ty31, ty33, ty58, diptychlaw4_Cell.pv_eq, place_Spot.pv_eq, api_Attr.pv_eq, api_Node.pv_eq, diptychref4_Spot.pv_eq, pvL, List.map_nil, rvsRes, rvRes, cellRes, tupOf, pur2, List.map_cons, List.map_append, List.head?_cons]
                  (repeat (first | exact Wk.refl _ | exact WkL.refl _ | exact Wk.nil _ | refine Wk.agg _ _ ?_ | refine Wk.tup _ _ ?_ | refine WkL.cons _ _ _ _ ?_ ?_ | exact WkL.nil))
                · rw [if_neg h12] at hh
                  replace h12 := Bool.eq_false_iff.mpr h12
                  refine awp_false (by first | exact congrArg PV.bool h12 | rfl) ?_
                  by_cases h13 : (decide (s_2.Index < (r_5.Kids.length : Int))) = true
                  · rw [if_pos h13] at hh
                    obtain ⟨size_9, h14, hh⟩ := bind_ex hh
                    refine awp_first fun K kk hK => ?_
                    simp only [go_sem, ↓reduceIte, reduceCtorEq, Nat.reduceEqDiff, Nat.reduceAdd, Nat.reduceMul, Nat.reduceSub, Nat.reduceLT, Nat.reduceLeDiff, Nat.reducePow, Nat.reduceBEq, Nat.reduceBNe, Int.reduceNeg, Int.reduceBEq, Int.reduceBNe, Int.reduceAdd, Int.reduceSub, Int.reduceMul, Int.reduceLT, Int.reduceLE, Int.reduceToNat, Int.reduceEq, Int.reduceNe, List.take_length, take_map_len, runesOf_eq, runeBytes_map, an_place_Pos, nf_place_Pos, fp_place_Pos, ty3, ty9, ty23, ty25, ty27, ty28, ty29, ty31, ty33, ty58, diptychlaw4_Cell.pv_eq, place_Spot.pv_eq, api_Attr.pv_eq, api_Node.pv_eq, diptychref4_Spot.pv_eq, pvL, List.map_nil, h13, of_decide_eq_true h13, h9a, h9b, h9d, h9f.1, h9f.2, h13, of_decide_eq_true h13]
                    (repeat (refine And.intro ?_ ?_; focus (first | assumption | (try simp only [List.length_append, List.length_cons, List.length_nil] at *; omega))))
                    refine step_call2 (node_Size_ok _ _ h14) (by try simp only [go_sem, ↓reduceIte, reduceCtorEq, Nat.reduceEqDiff, Nat.reduceAdd, Nat.reduceMul, Nat.reduceSub, Nat.reduceLT, Nat.reduceLeDiff, Nat.reducePow, Nat.reduceBEq, Nat.reduceBNe, Int.reduceNeg, Int.reduceBEq, Int.reduceBNe, Int.reduceAdd, Int.reduceSub, Int.reduceMul, Int.reduceLT, Int.reduceLE, Int.reduceToNat, Int.reduceEq, Int.reduceNe, List.take_length, take_map_len, runesOf_eq, runeBytes_map, an_place_Pos, nf_place_Pos, fp_place_Pos, ty3, ty9, ty23, ty25, ty27, ty28, ty29, ty31, ty33, ty58, diptychlaw4_Cell.pv_eq, place_Spot.pv_eq, api_Attr.pv_eq, api_Node.pv_eq, diptychref4_Spot.pv_eq, pvL, List.map_nil, h13, of_decide_eq_true h13, h9a, h9b, h9d, h9f.1, h9f.2, h13, of_decide_eq_true h13]; (repeat (first | exact WkL.refl _ | exact Wk.refl _ | exact Wk.nil _ | refine WkL.cons _ _ _ _ ?_ ?_ | exact WkL.nil | refine Wk.agg _ _ ?_ | refine Wk.tup _ _ ?_))) (by rfl) (by rfl) ?_
                    simp only [go_sem, ↓reduceIte, reduceCtorEq, Nat.reduceEqDiff, Nat.reduceAdd, Nat.reduceMul, Nat.reduceSub, Nat.reduceLT, Nat.reduceLeDiff, Nat.reducePow, Nat.reduceBEq, Nat.reduceBNe, Int.reduceNeg, Int.reduceBEq, Int.reduceBNe, Int.reduceAdd, Int.reduceSub, Int.reduceMul, Int.reduceLT, Int.reduceLE, Int.reduceToNat, Int.reduceEq, Int.reduceNe, List.take_length, take_map_len, runesOf_eq, runeBytes_map, an_place_Pos, nf_place_Pos, fp_place_Pos, ty3, ty9, ty23, ty25, ty27, ty28, ty29, ty31, ty33, ty58, diptychlaw4_Cell.pv_eq, place_Spot.pv_eq, api_Attr.pv_eq, api_Node.pv_eq, diptychref4_Spot.pv_eq, pvL, List.map_nil, h13, of_decide_eq_true h13, h9a, h9b, h9d, h9f.1, h9f.2, h13, of_decide_eq_true h13]
                    (repeat (refine And.intro ?_ ?_; focus (first | assumption | (try simp only [List.length_append, List.length_cons, List.length_nil] at *; omega))))
                    refine hK _ _ fun nx => ?_; clear hK K; try clear kk
                    by_cases h15 : (size_9 == (0 : Int)) = true
                    · rw [if_pos h15] at hh
                      refine awp_true (by first | exact congrArg PV.bool h15 | rfl) ?_
                      refine awp_first fun K kk hK => ?_
                      simp only [go_sem, ↓reduceIte, reduceCtorEq, Nat.reduceEqDiff, Nat.reduceAdd, Nat.reduceMul, Nat.reduceSub, Nat.reduceLT, Nat.reduceLeDiff, Nat.reducePow, Nat.reduceBEq, Nat.reduceBNe, Int.reduceNeg, Int.reduceBEq, Int.reduceBNe, Int.reduceAdd, Int.reduceSub, Int.reduceMul, Int.reduceLT, Int.reduceLE, Int.reduceToNat, Int.reduceEq, Int.reduceNe, List.take_length, take_map_len, runesOf_eq, runeBytes_map, an_place_Pos, nf_place_Pos, fp_place_Pos, ty3, ty9, ty23, ty25, ty27, ty28, ty29, ty31, ty33, ty58, diptychlaw4_Cell.pv_eq, place_Spot.pv_eq, api_Attr.pv_eq, api_Node.pv_eq, diptychref4_Spot.pv_eq, pvL, List.map_nil]
                      refine hK _ _ fun nx => ?_; clear hK K; try clear kk
                      refine awp_ret ?_; (repeat (with_reducible first | refine then_n ?_ | refine then_r ?_ | refine then_e ?_ | refine block_n ?_ | refine block_r ?_ | refine exit_here ?_ | refine exit_on rfl ?_ | refine scope_n ?_ | refine scope_r ?_ | refine scope_e ?_ | refine cut_awp ?_))
                      obtain hR := Option.some.inj hh
                      subst hR
                      refine ret_pure2 ?_ (by rfl)
                      simp only [go_sem, ↓reduceIte, reduceCtorEq, Nat.reduceEqDiff, Nat.reduceAdd, Nat.reduceMul, Nat.reduceSub, Nat.reduceLT, Nat.reduceLeDiff, Nat.reducePow, Nat.reduceBEq, Nat.reduceBNe, Int.reduceNeg, Int.reduceBEq, Int.reduceBNe, Int.reduceAdd, Int.reduceSub, Int.reduceMul, Int.reduceLT, Int.reduceLE, Int.reduceToNat, Int.reduceEq, Int.reduceNe, List.take_length, take_map_len, runesOf_eq, runeBytes_map, an_place_Pos, nf_place_Pos, fp_place_Pos, ty3, ty9, ty23, ty25, ty27, ty28, ty29, ty31, ty33, ty58, diptychlaw4_Cell.pv_eq, place_Spot.pv_eq, api_Attr.pv_eq, api_Node.pv_eq, diptychref4_Spot.pv_eq, pvL, List.map_nil, rvsRes, rvRes, cellRes, tupOf, pur2, List.map_cons, List.map_append, List.head?_cons]
                      (repeat (first | exact Wk.refl _ | exact WkL.refl _ | exact Wk.nil _ | refine Wk.agg _ _ ?_ | refine Wk.tup _ _ ?_ | refine WkL.cons _ _ _ _ ?_ ?_ | exact WkL.nil))
                    · rw [if_neg h15] at hh
                      replace h15 := Bool.eq_false_iff.mpr h15
                      refine awp_false (by first | exact congrArg PV.bool h15 | rfl) ?_
                      refine awp_skip ?_; (repeat (with_reducible first | refine then_n ?_ | refine then_r ?_ | refine then_e ?_ | refine block_n ?_ | refine block_r ?_ | refine exit_here ?_ | refine exit_on rfl ?_ | refine scope_n ?_ | refine scope_r ?_ | refine scope_e ?_ | refine cut_awp ?_))
                      obtain ⟨s_10, h16, hh⟩ := bind_ex hh
                      obtain ⟨h16a, h16c⟩ := sl_some h16
                      have h16g := sl_le h16a
                      have h16d := sl_map0 (f := api_Node.pv) h16c
                      try simp only [Int.toNat_natCast, Int.reduceToNat, List.map_cons, List.map_nil, diptychlaw4_Cell.pv_eq, place_Spot.pv_eq, api_Attr.pv_eq, api_Node.pv_eq, diptychref4_Spot.pv_eq, pvL] at h16d
                      obtain ⟨total_11, h17, hh⟩ := bind_ex hh
                      refine awp_first fun K kk hK => ?_
                      simp only [go_sem, ↓reduceIte, reduceCtorEq, Nat.reduceEqDiff, Nat.reduceAdd, Nat.reduceMul, Nat.reduceSub, Nat.reduceLT, Nat.reduceLeDiff, Nat.reducePow, Nat.reduceBEq, Nat.reduceBNe, Int.reduceNeg, Int.reduceBEq, Int.reduceBNe, Int.reduceAdd, Int.reduceSub, Int.reduceMul, Int.reduceLT, Int.reduceLE, Int.reduceToNat, Int.reduceEq, Int.reduceNe, List.take_length, take_map_len, runesOf_eq, runeBytes_map, an_place_Pos, nf_place_Pos, fp_place_Pos, ty3, ty9, ty23, ty25, ty27, ty28, ty29, ty31, ty33, ty58, diptychlaw4_Cell.pv_eq, place_Spot.pv_eq, api_Attr.pv_eq, api_Node.pv_eq, diptychref4_Spot.pv_eq, pvL, List.map_nil, h16a.1, h16a.2.1, h16a.2.2, h16d, h16g]
                      (repeat (refine And.intro ?_ ?_; focus (first | assumption | (try simp only [List.length_append, List.length_cons, List.length_nil] at *; omega))))
                      refine step_call2 (node_Total_ok _ _ h17) (by try simp only [go_sem, ↓reduceIte, reduceCtorEq, Nat.reduceEqDiff, Nat.reduceAdd, Nat.reduceMul, Nat.reduceSub, Nat.reduceLT, Nat.reduceLeDiff, Nat.reducePow, Nat.reduceBEq, Nat.reduceBNe, Int.reduceNeg, Int.reduceBEq, Int.reduceBNe, Int.reduceAdd, Int.reduceSub, Int.reduceMul, Int.reduceLT, Int.reduceLE, Int.reduceToNat, Int.reduceEq, Int.reduceNe, List.take_length, take_map_len, runesOf_eq, runeBytes_map, an_place_Pos, nf_place_Pos, fp_place_Pos, ty3, ty9, ty23, ty25, ty27, ty28, ty29, ty31, ty33, ty58, diptychlaw4_Cell.pv_eq, place_Spot.pv_eq, api_Attr.pv_eq, api_Node.pv_eq, diptychref4_Spot.pv_eq, pvL, List.map_nil, h16a.1, h16a.2.1, h16a.2.2, h16d, h16g]; (repeat (first | exact WkL.refl _ | exact Wk.refl _ | exact Wk.nil _ | refine WkL.cons _ _ _ _ ?_ ?_ | exact WkL.nil | refine Wk.agg _ _ ?_ | refine Wk.tup _ _ ?_))) (by rfl) (by rfl) ?_
                      simp only [go_sem, ↓reduceIte, reduceCtorEq, Nat.reduceEqDiff, Nat.reduceAdd, Nat.reduceMul, Nat.reduceSub, Nat.reduceLT, Nat.reduceLeDiff, Nat.reducePow, Nat.reduceBEq, Nat.reduceBNe, Int.reduceNeg, Int.reduceBEq, Int.reduceBNe, Int.reduceAdd, Int.reduceSub, Int.reduceMul, Int.reduceLT, Int.reduceLE, Int.reduceToNat, Int.reduceEq, Int.reduceNe, List.take_length, take_map_len, runesOf_eq, runeBytes_map, an_place_Pos, nf_place_Pos, fp_place_Pos, ty3, ty9, ty23, ty25, ty27, ty28, ty29, ty31, ty33, ty58, diptychlaw4_Cell.pv_eq, place_Spot.pv_eq, api_Attr.pv_eq, api_Node.pv_eq, diptychref4_Spot.pv_eq, pvL, List.map_nil, h16a.1, h16a.2.1, h16a.2.2, h16d, h16g]
                      (repeat (refine And.intro ?_ ?_; focus (first | assumption | (try simp only [List.length_append, List.length_cons, List.length_nil] at *; omega))))
                      refine hK _ _ fun nx => ?_; clear hK K; try clear kk
                      refine awp_ret ?_; (repeat (with_reducible first | refine then_n ?_ | refine then_r ?_ | refine then_e ?_ | refine block_n ?_ | refine block_r ?_ | refine exit_here ?_ | refine exit_on rfl ?_ | refine scope_n ?_ | refine scope_r ?_ | refine scope_e ?_ | refine cut_awp ?_))
                      obtain hR := Option.some.inj hh
                      subst hR
                      refine ret_pure2 ?_ (by rfl)
                      simp only [go_sem, ↓reduceIte, reduceCtorEq, Nat.reduceEqDiff, Nat.reduceAdd, Nat.reduceMul, Nat.reduceSub, Nat.reduceLT, Nat.reduceLeDiff, Nat.reducePow, Nat.reduceBEq, Nat.reduceBNe, Int.reduceNeg, Int.reduceBEq, Int.reduceBNe, Int.reduceAdd, Int.reduceSub, Int.reduceMul, Int.reduceLT, Int.reduceLE, Int.reduceToNat, Int.reduceEq, Int.reduceNe, List.take_length, take_map_len, runesOf_eq, runeBytes_map, an_place_Pos, nf_place_Pos, fp_place_Pos, ty3, ty9, ty23, ty25, ty27, ty28, ty29, ty31, ty33, ty58, diptychlaw4_Cell.pv_eq, place_Spot.pv_eq, api_Attr.pv_eq, api_Node.pv_eq, diptychref4_Spot.pv_eq, pvL, List.map_nil, rvsRes, rvRes, cellRes, tupOf, pur2, List.map_cons, List.map_append, List.head?_cons]
                      (repeat (first | exact Wk.refl _ | exact WkL.refl _ | exact Wk.nil _ | refine Wk.agg _ _ ?_ | refine Wk.tup _ _ ?_ | refine WkL.cons _ _ _ _ ?_ ?_ | exact WkL.nil))
                  · rw [if_neg h13] at hh
                    replace h13 := Bool.eq_false_iff.mpr h13
                    refine awp_first fun K kk hK => ?_
                    simp only [go_sem, ↓reduceIte, reduceCtorEq, Nat.reduceEqDiff, Nat.reduceAdd, Nat.reduceMul, Nat.reduceSub, Nat.reduceLT, Nat.reduceLeDiff, Nat.reducePow, Nat.reduceBEq, Nat.reduceBNe, Int.reduceNeg, Int.reduceBEq, Int.reduceBNe, Int.reduceAdd, Int.reduceSub, Int.reduceMul, Int.reduceLT, Int.reduceLE, Int.reduceToNat, Int.reduceEq, Int.reduceNe, List.take_length, take_map_len, runesOf_eq, runeBytes_map, an_place_Pos, nf_place_Pos, fp_place_Pos, ty3, ty9, ty23, ty25, ty27, ty28, ty29, ty31, ty33, ty58, diptychlaw4_Cell.pv_eq, place_Spot.pv_eq, api_Attr.pv_eq, api_Node.pv_eq, diptychref4_Spot.pv_eq, pvL, List.map_nil, h13, of_decide_eq_false h13, h13, of_decide_eq_false h13]
                    (repeat (refine And.intro ?_ ?_; focus (first | assumption | (try simp only [List.length_append, List.length_cons, List.length_nil] at *; omega))))
                    refine hK _ _ fun nx => ?_; clear hK K; try clear kk
                    refine awp_false rfl ?_
                    refine awp_skip ?_; (repeat (with_reducible first | refine then_n ?_ | refine then_r ?_ | refine then_e ?_ | refine block_n ?_ | refine block_r ?_ | refine exit_here ?_ | refine exit_on rfl ?_ | refine scope_n ?_ | refine scope_r ?_ | refine scope_e ?_ | refine cut_awp ?_))
                    obtain ⟨s_12, h18, hh⟩ := bind_ex hh
                    obtain ⟨h18a, h18c⟩ := sl_some h18
                    have h18g := sl_le h18a
                    have h18d := sl_map0 (f := api_Node.pv) h18c
                    try simp only [Int.toNat_natCast, Int.reduceToNat, List.map_cons, List.map_nil, diptychlaw4_Cell.pv_eq, place_Spot.pv_eq, api_Attr.pv_eq, api_Node.pv_eq, diptychref4_Spot.pv_eq, pvL] at h18d
                    obtain ⟨total_13, h19, hh⟩ := bind_ex hh
                    refine awp_first fun K kk hK => ?_
                    simp only [go_sem, ↓reduceIte, reduceCtorEq, Nat.reduceEqDiff, Nat.reduceAdd, Nat.reduceMul, Nat.reduceSub, Nat.reduceLT, Nat.reduceLeDiff, Nat.reducePow, Nat.reduceBEq, Nat.reduceBNe, Int.reduceNeg, Int.reduceBEq, Int.reduceBNe, Int.reduceAdd, Int.reduceSub, Int.reduceMul, Int.reduceLT, Int.reduceLE, Int.reduceToNat, Int.reduceEq, Int.reduceNe, List.take_length, take_map_len, runesOf_eq, runeBytes_map, an_place_Pos, nf_place_Pos, fp_place_Pos, ty3, ty9, ty23, ty25, ty27, ty28, ty29, ty31, ty33, ty58, diptychlaw4_Cell.pv_eq, place_Spot.pv_eq, api_Attr.pv_eq, api_Node.pv_eq, diptychref4_Spot.pv_eq, pvL, List.map_nil, h18a.1, h18a.2.1, h18a.2.2, h18d, h18g]
                    (repeat (refine And.intro ?_ ?_; focus (first | assumption | (try simp only [List.length_append, List.length_cons, List.length_nil] at *; omega))))
                    refine step_call2 (node_Total_ok _ _ h19) (by try simp only [go_sem, ↓reduceIte, reduceCtorEq, Nat.reduceEqDiff, Nat.reduceAdd, Nat.reduceMul, Nat.reduceSub, Nat.reduceLT, Nat.reduceLeDiff, Nat.reducePow, Nat.reduceBEq, Nat.reduceBNe, Int.reduceNeg, Int.reduceBEq, Int.reduceBNe, Int.reduceAdd, Int.reduceSub, Int.reduceMul, Int.reduceLT, Int.reduceLE, Int.reduceToNat, Int.reduceEq, Int.reduceNe, List.take_length, take_map_len, runesOf_eq, runeBytes_map, an_place_Pos, nf_place_Pos, fp_place_Pos, ty3, ty9, ty23, ty25, ty27, ty28, ty29, ty31, ty33, ty58, diptychlaw4_Cell.pv_eq, place_Spot.pv_eq, api_Attr.pv_eq, api_Node.pv_eq, diptychref4_Spot.pv_eq, pvL, List.map_nil, h18a.1, h18a.2.1, h18a.2.2, h18d, h18g]; (repeat (first | exact WkL.refl _ | exact Wk.refl _ | exact Wk.nil _ | refine WkL.cons _ _ _ _ ?_ ?_ | exact WkL.nil | refine Wk.agg _ _ ?_ | refine Wk.tup _ _ ?_))) (by rfl) (by rfl) ?_
                    simp only [go_sem, ↓reduceIte, reduceCtorEq, Nat.reduceEqDiff, Nat.reduceAdd, Nat.reduceMul, Nat.reduceSub, Nat.reduceLT, Nat.reduceLeDiff, Nat.reducePow, Nat.reduceBEq, Nat.reduceBNe, Int.reduceNeg, Int.reduceBEq, Int.reduceBNe, Int.reduceAdd, Int.reduceSub, Int.reduceMul, Int.reduceLT, Int.reduceLE, Int.reduceToNat, Int.reduceEq, Int.reduceNe, List.take_length, take_map_len, runesOf_eq, runeBytes_map, an_place_Pos, nf_place_Pos, fp_place_Pos, ty3, ty9, ty23, ty25, ty27, ty28, ty29, ty31, ty33, ty58, diptychlaw4_Cell.pv_eq, place_Spot.pv_eq, api_Attr.pv_eq, api_Node.pv_eq, diptychref4_Spot.pv_eq, pvL, List.map_nil, h18a.1, h18a.2.1, h18a.2.2, h18d, h18g]
                    (repeat (refine And.intro ?_ ?_; focus (first | assumption | (try simp only [List.length_append, List.length_cons, List.length_nil] at *; omega))))
                    refine hK _ _ fun nx => ?_; clear hK K; try clear kk
                    refine awp_ret ?_; (repeat (with_reducible first | refine then_n ?_ | refine then_r ?_ | refine then_e ?_ | refine block_n ?_ | refine block_r ?_ | refine exit_here ?_ | refine exit_on rfl ?_ | refine scope_n ?_ | refine scope_r ?_ | refine scope_e ?_ | refine cut_awp ?_))
                    obtain hR := Option.some.inj hh
                    subst hR
                    refine ret_pure2 ?_ (by rfl)
                    simp only [go_sem, ↓reduceIte, reduceCtorEq, Nat.reduceEqDiff, Nat.reduceAdd, Nat.reduceMul, Nat.reduceSub, Nat.reduceLT, Nat.reduceLeDiff, Nat.reducePow, Nat.reduceBEq, Nat.reduceBNe, Int.reduceNeg, Int.reduceBEq, Int.reduceBNe, Int.reduceAdd, Int.reduceSub, Int.reduceMul, Int.reduceLT, Int.reduceLE, Int.reduceToNat, Int.reduceEq, Int.reduceNe, List.take_length, take_map_len, runesOf_eq, runeBytes_map, an_place_Pos, nf_place_Pos, fp_place_Pos, ty3, ty9, ty23, ty25, ty27, ty28, ty29, ty31, ty33, ty58, diptychlaw4_Cell.pv_eq, place_Spot.pv_eq, api_Attr.pv_eq, api_Node.pv_eq, diptychref4_Spot.pv_eq, pvL, List.map_nil, rvsRes, rvRes, cellRes, tupOf, pur2, List.map_cons, List.map_append, List.head?_cons]
                    (repeat (first | exact Wk.refl _ | exact WkL.refl _ | exact Wk.nil _ | refine Wk.agg _ _ ?_ | refine Wk.tup _ _ ?_ | refine WkL.cons _ _ _ _ ?_ ?_ | exact WkL.nil))
          · rw [if_neg h7] at hh
            replace h7 := Bool.eq_false_iff.mpr h7
            refine awp_first fun K kk hK => ?_
            simp only [go_sem, ↓reduceIte, reduceCtorEq, Nat.reduceEqDiff, Nat.reduceAdd, Nat.reduceMul, Nat.reduceSub, Nat.reduceLT, Nat.reduceLeDiff, Nat.reducePow, Nat.reduceBEq, Nat.reduceBNe, Int.reduceNeg, Int.reduceBEq, Int.reduceBNe, Int.reduceAdd, Int.reduceSub, Int.reduceMul, Int.reduceLT, Int.reduceLE, Int.reduceToNat, Int.reduceEq, Int.reduceNe, List.take_length, take_map_len, runesOf_eq, runeBytes_map, an_place_Pos, nf_place_Pos, fp_place_Pos, ty3, ty9, ty23, ty25, ty27, ty28, ty29, ty31, ty33, ty58, diptychlaw4_Cell.pv_eq, place_Spot.pv_eq, api_Attr.pv_eq, api_Node.pv_eq, diptychref4_Spot.pv_eq, pvL, List.map_nil, h7, of_decide_eq_false h7, h7, of_decide_eq_false h7]
            (repeat (refine And.intro ?_ ?_; focus (first | assumption | (try simp only [List.length_append, List.length_cons, List.length_nil] at *; omega))))
            refine hK _ _ fun nx => ?_; clear hK K; try clear kk
            refine awp_false rfl ?_
            by_cases h20 : (decide (s_2.Index < (r_5.Kids.length : Int))) = true
            · rw [if_pos h20] at hh
              obtain ⟨x_14, h21, hh⟩ := bind_ex hh
              obtain ⟨h21a, h21b, h21c⟩ := rd_some h21
              have h21d := rd_get (f := api_Node.pv) h21c
              have h21f := rd_more (f := api_Node.pv) h21c
              try simp only [Int.toNat_natCast, Int.reduceToNat] at h21d h21f
              obtain ⟨size_15, h22, hh⟩ := bind_ex hh
              refine awp_first fun K kk hK => ?_
              simp only [go_sem, ↓reduceIte, reduceCtorEq, Nat.reduceEqDiff, Nat.reduceAdd, Nat.reduceMul, Nat.reduceSub, Nat.reduceLT, Nat.reduceLeDiff, Nat.reducePow, Nat.reduceBEq, Nat.reduceBNe, Int.reduceNeg, Int.reduceBEq, Int.reduceBNe, Int.reduceAdd, Int.reduceSub, Int.reduceMul, Int.reduceLT, Int.reduceLE, Int.reduceToNat, Int.reduceEq, Int.reduceNe, List.take_length, take_map_len, runesOf_eq, runeBytes_map, an_place_Pos, nf_place_Pos, fp_place_Pos, ty3, ty9, ty23, ty25, ty27, ty28, ty29, ty31, ty33, ty58, diptychlaw4_Cell.pv_eq, place_Spot.pv_eq, api_Attr.pv_eq, api_Node.pv_eq, diptychref4_Spot.pv_eq, pvL, List.map_nil, h20, of_decide_eq_true h20, h21a, h21b, h21d, h21f.1, h21f.2, h20, of_decide_eq_true h20]
              (repeat (refine And.intro ?_ ?_; focus (first | assumption | (try simp only [List.length_append, List.length_cons, List.length_nil] at *; omega))))
              refine step_call2 (node_Size_ok _ _ h22) (by try simp only [go_sem, ↓reduceIte, reduceCtorEq, Nat.reduceEqDiff, Nat.reduceAdd, Nat.reduceMul, Nat.reduceSub, Nat.reduceLT, Nat.reduceLeDiff, Nat.reducePow, Nat.reduceBEq, Nat.reduceBNe, Int.reduceNeg, Int.reduceBEq, Int.reduceBNe, Int.reduceAdd, Int.reduceSub, Int.reduceMul, Int.reduceLT, Int.reduceLE, Int.reduceToNat, Int.reduceEq, Int.reduceNe, List.take_length, take_map_len, runesOf_eq, runeBytes_map, an_place_Pos, nf_place_Pos, fp_place_Pos, ty3, ty9, ty23, ty25, ty27, ty28, ty29, ty31, ty33, ty58, diptychlaw4_Cell.pv_eq, place_Spot.pv_eq, api_Attr.pv_eq, api_Node.pv_eq, diptychref4_Spot.pv_eq, pvL, List.map_nil, h20, of_decide_eq_true h20, h21a, h21b, h21d, h21f.1, h21f.2, h20, of_decide_eq_true h20]; (repeat (first | exact WkL.refl _ | exact Wk.refl _ | exact Wk.nil _ | refine WkL.cons _ _ _ _ ?_ ?_ | exact WkL.nil | refine Wk.agg _ _ ?_ | refine Wk.tup _ _ ?_))) (by rfl) (by rfl) ?_
              simp only [go_sem, ↓reduceIte, reduceCtorEq, Nat.reduceEqDiff, Nat.reduceAdd, Nat.reduceMul, Nat.reduceSub, Nat.reduceLT, Nat.reduceLeDiff, Nat.reducePow, Nat.reduceBEq, Nat.reduceBNe, Int.reduceNeg, Int.reduceBEq, Int.reduceBNe, Int.reduceAdd, Int.reduceSub, Int.reduceMul, Int.reduceLT, Int.reduceLE, Int.reduceToNat, Int.reduceEq, Int.reduceNe, List.take_length, take_map_len, runesOf_eq, runeBytes_map, an_place_Pos, nf_place_Pos, fp_place_Pos, ty3, ty9, ty23, ty25, ty27, ty28, ty29, ty31, ty33, ty58, diptychlaw4_Cell.pv_eq, place_Spot.pv_eq, api_Attr.pv_eq, api_Node.pv_eq, diptychref4_Spot.pv_eq, pvL, List.map_nil, h20, of_decide_eq_true h20, h21a, h21b, h21d, h21f.1, h21f.2, h20, of_decide_eq_true h20]
              (repeat (refine And.intro ?_ ?_; focus (first | assumption | (try simp only [List.length_append, List.length_cons, List.length_nil] at *; omega))))
              refine hK _ _ fun nx => ?_; clear hK K; try clear kk
              by_cases h23 : (size_15 == (0 : Int)) = true
              · rw [if_pos h23] at hh
                refine awp_true (by first | exact congrArg PV.bool h23 | rfl) ?_
                refine awp_first fun K kk hK => ?_
                simp only [go_sem, ↓reduceIte, reduceCtorEq, Nat.reduceEqDiff, Nat.reduceAdd, Nat.reduceMul, Nat.reduceSub, Nat.reduceLT, Nat.reduceLeDiff, Nat.reducePow, Nat.reduceBEq, Nat.reduceBNe, Int.reduceNeg, Int.reduceBEq, Int.reduceBNe, Int.reduceAdd, Int.reduceSub, Int.reduceMul, Int.reduceLT, Int.reduceLE, Int.reduceToNat, Int.reduceEq, Int.reduceNe, List.take_length, take_map_len, runesOf_eq, runeBytes_map, an_place_Pos, nf_place_Pos, fp_place_Pos, ty3, ty9, ty23, ty25, ty27, ty28, ty29, ty31, ty33, ty58, diptychlaw4_Cell.pv_eq, place_Spot.pv_eq, api_Attr.pv_eq, api_Node.pv_eq, diptychref4_Spot.pv_eq, pvL, List.map_nil]
                refine hK _ _ fun nx => ?_; clear hK K; try clear kk
                refine awp_ret ?_; (repeat (with_reducible first | refine then_n ?_ | refine then_r ?_ | refine then_e ?_ | refine block_n ?_ | refine block_r ?_ | refine exit_here ?_ | refine exit_on rfl ?_ | refine scope_n ?_ | refine scope_r ?_ | refine scope_e ?_ | refine cut_awp ?_))
                obtain hR := Option.some.inj hh
                subst hR
                refine ret_pure2 ?_ (by rfl)
                simp only [go_sem, ↓reduceIte, reduceCtorEq, Nat.reduceEqDiff, Nat.reduceAdd, Nat.reduceMul, Nat.reduceSub, Nat.reduceLT, Nat.reduceLeDiff, Nat.reducePow, Nat.reduceBEq, Nat.reduceBNe, Int.reduceNeg, Int.reduceBEq, Int.reduceBNe, Int.reduceAdd, Int.reduceSub, Int.reduceMul, Int.reduceLT, Int.reduceLE, Int.reduceToNat, Int.reduceEq, Int.reduceNe, List.take_length, take_map_len, runesOf_eq, runeBytes_map, an_place_Pos, nf_place_Pos, fp_place_Pos, ty3, ty9, ty23, ty25, ty27, ty28, ty29, ty31, ty33, ty58, diptychlaw4_Cell.pv_eq, place_Spot.pv_eq, api_Attr.pv_eq, api_Node.pv_eq, diptychref4_Spot.pv_eq, pvL, List.map_nil, rvsRes, rvRes, cellRes, tupOf, pur2, List.map_cons, List.map_append, List.head?_cons]
                (repeat (first | exact Wk.refl _ | exact WkL.refl _ | exact Wk.nil _ | refine Wk.agg _ _ ?_ | refine Wk.tup _ _ ?_ | refine WkL.cons _ _ _ _ ?_ ?_ | exact WkL.nil))
              · rw [if_neg h23] at hh
                replace h23 := Bool.eq_false_iff.mpr h23
                refine awp_false (by first | exact congrArg PV.bool h23 | rfl) ?_
                refine awp_skip ?_; (repeat (with_reducible first | refine then_n ?_ | refine then_r ?_ | refine then_e ?_ | refine block_n ?_ | refine block_r ?_ | refine exit_here ?_ | refine exit_on rfl ?_ | refine scope_n ?_ | refine scope_r ?_ | refine scope_e ?_ | refine cut_awp ?_))
                obtain ⟨s_16, h24, hh⟩ := bind_ex hh
                obtain ⟨h24a, h24c⟩ := sl_some h24
                have h24g := sl_le h24a
                have h24d := sl_map0 (f := api_Node.pv) h24c
                try simp only [Int.toNat_natCast, Int.reduceToNat, List.map_cons, List.map_nil, diptychlaw4_Cell.pv_eq, place_Spot.pv_eq, api_Attr.pv_eq, api_Node.pv_eq, diptychref4_Spot.pv_eq, pvL] at h24d
                obtain ⟨total_17, h25, hh⟩ := bind_ex hh
                refine awp_first fun K kk hK => ?_
                simp only [go_sem, ↓reduceIte, reduceCtorEq, Nat.reduceEqDiff, Nat.reduceAdd, Nat.reduceMul, Nat.reduceSub, Nat.reduceLT, Nat.reduceLeDiff, Nat.reducePow, Nat.reduceBEq, Nat.reduceBNe, Int.reduceNeg, Int.reduceBEq, Int.reduceBNe, Int.reduceAdd, Int.reduceSub, Int.reduceMul, Int.reduceLT, Int.reduceLE, Int.reduceToNat, Int.reduceEq, Int.reduceNe, List.take_length, take_map_len, runesOf_eq, runeBytes_map, an_place_Pos, nf_place_Pos, fp_place_Pos, ty3, ty9, ty23, ty25, ty27, ty28, ty29, ty31, ty33, ty58, diptychlaw4_Cell.pv_eq, place_Spot.pv_eq, api_Attr.pv_eq, api_Node.pv_eq, diptychref4_Spot.pv_eq, pvL, List.map_nil, h24a.1, h24a.2.1, h24a.2.2, h24d, h24g]
                (repeat (refine And.intro ?_ ?_; focus (first | assumption | (try simp only [List.length_append, List.length_cons, List.length_nil] at *; omega))))
                refine step_call2 (node_Total_ok _ _ h25) (by try simp only [go_sem, ↓reduceIte, reduceCtorEq, Nat.reduceEqDiff, Nat.reduceAdd, Nat.reduceMul, Nat.reduceSub, Nat.reduceLT, Nat.reduceLeDiff, Nat.reducePow, Nat.reduceBEq, Nat.reduceBNe, Int.reduceNeg, Int.reduceBEq, Int.reduceBNe, Int.reduceAdd, Int.reduceSub, Int.reduceMul, Int.reduceLT, Int.reduceLE, Int.reduceToNat, Int.reduceEq, Int.reduceNe, List.take_length, take_map_len, runesOf_eq, runeBytes_map, an_place_Pos, nf_place_Pos, fp_place_Pos, ty3, ty9, ty23, ty25, ty27, ty28, ty29, ty31, ty33, ty58, diptychlaw4_Cell.pv_eq, place_Spot.pv_eq, api_Attr.pv_eq, api_Node.pv_eq, diptychref4_Spot.pv_eq, pvL, List.map_nil, h24a.1, h24a.2.1, h24a.2.2, h24d, h24g]; (repeat (first | exact WkL.refl _ | exact Wk.refl _ | exact Wk.nil _ | refine WkL.cons _ _ _ _ ?_ ?_ | exact WkL.nil | refine Wk.agg _ _ ?_ | refine Wk.tup _ _ ?_))) (by rfl) (by rfl) ?_
                simp only [go_sem, ↓reduceIte, reduceCtorEq, Nat.reduceEqDiff, Nat.reduceAdd, Nat.reduceMul, Nat.reduceSub, Nat.reduceLT, Nat.reduceLeDiff, Nat.reducePow, Nat.reduceBEq, Nat.reduceBNe, Int.reduceNeg, Int.reduceBEq, Int.reduceBNe, Int.reduceAdd, Int.reduceSub, Int.reduceMul, Int.reduceLT, Int.reduceLE, Int.reduceToNat, Int.reduceEq, Int.reduceNe, List.take_length, take_map_len, runesOf_eq, runeBytes_map, an_place_Pos, nf_place_Pos, fp_place_Pos, ty3, ty9, ty23, ty25, ty27, ty28, ty29, ty31, ty33, ty58, diptychlaw4_Cell.pv_eq, place_Spot.pv_eq, api_Attr.pv_eq, api_Node.pv_eq, diptychref4_Spot.pv_eq, pvL, List.map_nil, h24a.1, h24a.2.1, h24a.2.2, h24d, h24g]
                (repeat (refine And.intro ?_ ?_; focus (first | assumption | (try simp only [List.length_append, List.length_cons, List.length_nil] at *; omega))))
                refine hK _ _ fun nx => ?_; clear hK K; try clear kk
                refine awp_ret ?_; (repeat (with_reducible first | refine then_n ?_ | refine then_r ?_ | refine then_e ?_ | refine block_n ?_ | refine block_r ?_ | refine exit_here ?_ | refine exit_on rfl ?_ | refine scope_n ?_ | refine scope_r ?_ | refine scope_e ?_ | refine cut_awp ?_))
                obtain hR := Option.some.inj hh
                subst hR
                refine ret_pure2 ?_ (by rfl)
                simp only [go_sem, ↓reduceIte, reduceCtorEq, Nat.reduceEqDiff, Nat.reduceAdd, Nat.reduceMul, Nat.reduceSub, Nat.reduceLT, Nat.reduceLeDiff, Nat.reducePow, Nat.reduceBEq, Nat.reduceBNe, Int.reduceNeg, Int.reduceBEq, Int.reduceBNe, Int.reduceAdd, Int.reduceSub, Int.reduceMul, Int.reduceLT, Int.reduceLE, Int.reduceToNat, Int.reduceEq, Int.reduceNe, List.take_length, take_map_len, runesOf_eq, runeBytes_map, an_place_Pos, nf_place_Pos, fp_place_Pos, ty3, ty9, ty23, ty25, ty27, ty28, ty29, ty31, ty33, ty58, diptychlaw4_Cell.pv_eq, place_Spot.pv_eq, api_Attr.pv_eq, api_Node.pv_eq, diptychref4_Spot.pv_eq, pvL, List.map_nil, rvsRes, rvRes, cellRes, tupOf, pur2, List.map_cons, List.map_append, List.head?_cons]
                (repeat (first | exact Wk.refl _ | exact WkL.refl _ | exact Wk.nil _ | refine Wk.agg _ _ ?_ | refine Wk.tup _ _ ?_ | refine WkL.cons _ _ _ _ ?_ ?_ | exact WkL.nil))
            · rw [if_neg h20] at hh
              replace h20 := Bool.eq_false_iff.mpr h20
              refine awp_first fun K kk hK => ?_
              simp only [go_sem, ↓reduceIte, reduceCtorEq, Nat.reduceEqDiff, Nat.reduceAdd, Nat.reduceMul, Nat.reduceSub, Nat.reduceLT, Nat.reduceLeDiff, Nat.reducePow, Nat.reduceBEq, Nat.reduceBNe, Int.reduceNeg, Int.reduceBEq, Int.reduceBNe, Int.reduceAdd, Int.reduceSub, Int.reduceMul, Int.reduceLT, Int.reduceLE, Int.reduceToNat, Int.reduceEq, Int.reduceNe, List.take_length, take_map_len, runesOf_eq, runeBytes_map, an_place_Pos, nf_place_Pos, fp_place_Pos, ty3, ty9, ty23, ty25, ty27, ty28, ty29, ty31, ty33, ty58, diptychlaw4_Cell.pv_eq, place_Spot.pv_eq, api_Attr.pv_eq, api_Node.pv_eq, diptychref4_Spot.pv_eq, pvL, List.map_nil, h20, of_decide_eq_false h20, h20, of_decide_eq_false h20]
              (repeat (refine And.intro ?_ ?_; focus (first | assumption | (try simp only [List.length_append, List.length_cons, List.length_nil] at *; omega))))
              refine hK _ _ fun nx => ?_; clear hK K; try clear kk
              refine awp_false rfl ?_
              refine awp_skip ?_; (repeat (with_reducible first | refine then_n ?_ | refine then_r ?_ | refine then_e ?_ | refine block_n ?_ | refine block_r ?_ | refine exit_here ?_ | refine exit_on rfl ?_ | refine scope_n ?_ | refine scope_r ?_ | refine scope_e ?_ | refine cut_awp ?_))
              obtain ⟨s_18, h26, hh⟩ := bind_ex hh
              obtain ⟨h26a, h26c⟩ := sl_some h26
              have h26g := sl_le h26a
              have h26d := sl_map0 (f := api_Node.pv) h26c
              try simp only [Int.toNat_natCast, Int.reduceToNat, List.map_cons, List.map_nil, diptychlaw4_Cell.pv_eq, place_Spot.pv_eq, api_Attr.pv_eq, api_Node.pv_eq, diptychref4_Spot.pv_eq, pvL] at h26d
              obtain ⟨total_19, h27, hh⟩ := bind_ex hh
              refine awp_first fun K kk hK => ?_
              simp only [go_sem, ↓reduceIte, reduceCtorEq, Nat.reduceEqDiff, Nat.reduceAdd, Nat.reduceMul, Nat.reduceSub, Nat.reduceLT, Nat.reduceLeDiff, Nat.reducePow, Nat.reduceBEq, Nat.reduceBNe, Int.reduceNeg, Int.reduceBEq, Int.reduceBNe, Int.reduceAdd, Int.reduceSub, Int.reduceMul, Int.reduceLT, Int.reduceLE, Int.reduceToNat, Int.reduceEq, Int.reduceNe, List.take_length, take_map_len, runesOf_eq, runeBytes_map, an_place_Pos, nf_place_Pos, fp_place_Pos, ty3, ty9, ty23, ty25, ty27, ty28, ty29, ty31, ty33, ty58, diptychlaw4_Cell.pv_eq, place_Spot.pv_eq, api_Attr.pv_eq, api_Node.pv_eq, diptychref4_Spot.pv_eq, pvL, List.map_nil, h26a.1, h26a.2.1, h26a.2.2, h26d, h26g]
              (repeat (refine And.intro ?_ ?_; focus (first | assumption | (try simp only [List.length_append, List.length_cons, List.length_nil] at *; omega))))
              refine step_call2 (node_Total_ok _ _ h27) (by try simp only [go_sem, ↓reduceIte, reduceCtorEq, Nat.reduceEqDiff, Nat.reduceAdd, Nat.reduceMul, Nat.reduceSub, Nat.reduceLT, Nat.reduceLeDiff, Nat.reducePow, Nat.reduceBEq, Nat.reduceBNe, Int.reduceNeg, Int.reduceBEq, Int.reduceBNe, Int.reduceAdd, Int.reduceSub, Int.reduceMul, Int.reduceLT, Int.reduceLE, Int.reduceToNat, Int.reduceEq, Int.reduceNe, List.take_length, take_map_len, runesOf_eq, runeBytes_map, an_place_Pos, nf_place_Pos, fp_place_Pos, ty3, ty9, ty23, ty25, ty27, ty28, ty29, ty31, ty33, ty58, diptychlaw4_Cell.pv_eq, place_Spot.pv_eq, api_Attr.pv_eq, api_Node.pv_eq, diptychref4_Spot.pv_eq, pvL, List.map_nil, h26a.1, h26a.2.1, h26a.2.2, h26d, h26g]; (repeat (first | exact WkL.refl _ | exact Wk.refl _ | exact Wk.nil _ | refine WkL.cons _ _ _ _ ?_ ?_ | exact WkL.nil | refine Wk.agg _ _ ?_ | refine Wk.tup _ _ ?_))) (by rfl) (by rfl) ?_
              simp only [go_sem, ↓reduceIte, reduceCtorEq, Nat.reduceEqDiff, Nat.reduceAdd, Nat.reduceMul, Nat.reduceSub, Nat.reduceLT, Nat.reduceLeDiff, Nat.reducePow, Nat.reduceBEq, Nat.reduceBNe, Int.reduceNeg, Int.reduceBEq, Int.reduceBNe, Int.reduceAdd, Int.reduceSub, Int.reduceMul, Int.reduceLT, Int.reduceLE, Int.reduceToNat, Int.reduceEq, Int.reduceNe, List.take_length, take_map_len, runesOf_eq, runeBytes_map, an_place_Pos, nf_place_Pos, fp_place_Pos, ty3, ty9, ty23, ty25, ty27, ty28, ty29, ty31, ty33, ty58, diptychlaw4_Cell.pv_eq, place_Spot.pv_eq, api_Attr.pv_eq, api_Node.pv_eq, diptychref4_Spot.pv_eq, pvL, List.map_nil, h26a.1, h26a.2.1, h26a.2.2, h26d, h26g]
              (repeat (refine And.intro ?_ ?_; focus (first | assumption | (try simp only [List.length_append, List.length_cons, List.length_nil] at *; omega))))
              refine hK _ _ fun nx => ?_; clear hK K; try clear kk
              refine awp_ret ?_; (repeat (with_reducible first | refine then_n ?_ | refine then_r ?_ | refine then_e ?_ | refine block_n ?_ | refine block_r ?_ | refine exit_here ?_ | refine exit_on rfl ?_ | refine scope_n ?_ | refine scope_r ?_ | refine scope_e ?_ | refine cut_awp ?_))
              obtain hR := Option.some.inj hh
              subst hR
              refine ret_pure2 ?_ (by rfl)
              simp only [go_sem, ↓reduceIte, reduceCtorEq, Nat.reduceEqDiff, Nat.reduceAdd, Nat.reduceMul, Nat.reduceSub, Nat.reduceLT, Nat.reduceLeDiff, Nat.reducePow, Nat.reduceBEq, Nat.reduceBNe, Int.reduceNeg, Int.reduceBEq, Int.reduceBNe, Int.reduceAdd, Int.reduceSub, Int.reduceMul, Int.reduceLT, Int.reduceLE, Int.reduceToNat, Int.reduceEq, Int.reduceNe, List.take_length, take_map_len, runesOf_eq, runeBytes_map, an_place_Pos, nf_place_Pos, fp_place_Pos, ty3, ty9, ty23, ty25, ty27, ty28, ty29, ty31, ty33, ty58, diptychlaw4_Cell.pv_eq, place_Spot.pv_eq, api_Attr.pv_eq, api_Node.pv_eq, diptychref4_Spot.pv_eq, pvL, List.map_nil, rvsRes, rvRes, cellRes, tupOf, pur2, List.map_cons, List.map_append, List.head?_cons]
              (repeat (first | exact Wk.refl _ | exact WkL.refl _ | exact Wk.nil _ | refine Wk.agg _ _ ?_ | refine Wk.tup _ _ ?_ | refine WkL.cons _ _ _ _ ?_ ?_ | exact WkL.nil))

end Go.Proofs.Ytacmddgliagpcaa
