/- What the functions answer, the program answers (0). -/
import Derived.Test.YtafcbjepmjcpgaaAgC
import Derived.Test.YtafcbjepmjcpgaaAgF
namespace Go.Proofs.Ytafcbjepmjcpgaa
set_option linter.unusedSimpArgs false
set_option linter.unusedVariables false
open Go
set_option maxRecDepth 100000

theorem maps_Range_end_ok (r_1 : maps_Range) (R : Int) (hh : maps_Range_end r_1 = some R) : PC Try.prog 48 [.agg [.int .i64 r_1.Pos, .int .i64 r_1.Old, .int .i64 r_1.New]] (.int .i64 R) := by
  rw [maps_Range_end] at hh
  refine start_maps_Range_end rfl ?_
  refine awp_first fun K kk hK => ?_
  simp only [go_sem, ↓reduceIte, reduceCtorEq, Nat.reduceEqDiff, Nat.reduceAdd, Nat.reduceMul, Nat.reduceSub, Nat.reduceLT, Nat.reduceLeDiff, Nat.reducePow, Nat.reduceBEq, Nat.reduceBNe, Int.reduceNeg, Int.reduceBEq, Int.reduceBNe, Int.reduceAdd, Int.reduceSub, Int.reduceMul, Int.reduceLT, Int.reduceLE, Int.reduceToNat, Int.reduceEq, Int.reduceNe, List.take_length, take_map_len, runesOf_eq, runeBytes_map, an_maps_Range_end, nf_maps_Range_end, fp_maps_Range_end, ty3, ty33, maps_Range.pv_eq, diptychref10_Range.pv_eq, pvL, List.map_nil]
  refine hK _ _ fun nx => ?_; clear hK K; try clear kk
  refine awp_first fun K kk hK => ?_
  simp only [go_sem, ↓reduceIte, reduceCtorEq, Nat.reduceEqDiff, Nat.reduceAdd, Nat.reduceMul, Nat.reduceSub, Nat.reduceLT, Nat.reduceLeDiff, Nat.reducePow, Nat.reduceBEq, Nat.reduceBNe, Int.reduceNeg, Int.reduceBEq, Int.reduceBNe, Int.reduceAdd, Int.reduceSub, Int.reduceMul, Int.reduceLT, Int.reduceLE, Int.reduceToNat, Int.reduceEq, Int.reduceNe, List.take_length, take_map_len, runesOf_eq, runeBytes_map, an_maps_Range_end, nf_maps_Range_end, fp_maps_Range_end, ty3, ty33, maps_Range.pv_eq, diptychref10_Range.pv_eq, pvL, List.map_nil]
  refine hK _ _ fun nx => ?_; clear hK K; try clear kk
  refine awp_ret ?_; (repeat (with_reducible first | refine then_n ?_ | refine then_r ?_ | refine then_e ?_ | refine block_n ?_ | refine block_r ?_ | refine exit_here ?_ | refine exit_on rfl ?_ | refine scope_n ?_ | refine scope_r ?_ | refine scope_e ?_ | refine cut_awp ?_))
  obtain hR := Option.some.inj hh
  subst hR
  refine ret_pure2 ?_ (by rfl)
  simp only [go_sem, ↓reduceIte, reduceCtorEq, Nat.reduceEqDiff, Nat.reduceAdd, Nat.reduceMul, Nat.reduceSub, Nat.reduceLT, Nat.reduceLeDiff, Nat.reducePow, Nat.reduceBEq, Nat.reduceBNe, Int.reduceNeg, Int.reduceBEq, Int.reduceBNe, Int.reduceAdd, Int.reduceSub, Int.reduceMul, Int.reduceLT, Int.reduceLE, Int.reduceToNat, Int.reduceEq, Int.reduceNe, List.take_length, take_map_len, runesOf_eq, runeBytes_map, an_maps_Range_end, nf_maps_Range_end, fp_maps_Range_end, ty3, ty33, maps_Range.pv_eq, diptychref10_Range.pv_eq, pvL, List.map_nil, rvsRes, rvRes, cellRes, tupOf, pur2, List.map_cons, List.map_append, List.head?_cons]
  (repeat (first | exact Wk.refl _ | exact WkL.refl _ | exact Wk.nil _ | refine Wk.agg _ _ ?_ | refine Wk.tup _ _ ?_ | refine WkL.cons _ _ _ _ ?_ ?_ | exact WkL.nil))
theorem maps_Range_side_ok (r_1 : maps_Range) (pos_2 : Int) (right_3 : Bool) (R : Bool) (hh : maps_Range_side r_1 pos_2 right_3 = some R) : PC Try.prog 49 [.agg [.int .i64 r_1.Pos, .int .i64 r_1.Old, .int .i64 r_1.New], .int .i64 pos_2, .bool right_3] (.bool R) := by
  rw [maps_Range_side] at hh
  refine start_maps_Range_side rfl ?_
  refine awp_first fun K kk hK => ?_
  simp only [go_sem, ↓reduceIte, reduceCtorEq, Nat.reduceEqDiff, Nat.reduceAdd, Nat.reduceMul, Nat.reduceSub, Nat.reduceLT, Nat.reduceLeDiff, Nat.reducePow, Nat.reduceBEq, Nat.reduceBNe, Int.reduceNeg, Int.reduceBEq, Int.reduceBNe, Int.reduceAdd, Int.reduceSub, Int.reduceMul, Int.reduceLT, Int.reduceLE, Int.reduceToNat, Int.reduceEq, Int.reduceNe, List.take_length, take_map_len, runesOf_eq, runeBytes_map, an_maps_Range_side, nf_maps_Range_side, fp_maps_Range_side, ty3, ty33, maps_Range.pv_eq, diptychref10_Range.pv_eq, pvL, List.map_nil]
  refine hK _ _ fun nx => ?_; clear hK K; try clear kk
  refine awp_seq ?_
  refine awp_block ?_
  refine awp_first fun K kk hK => ?_
  simp only [go_sem, ↓reduceIte, reduceCtorEq, Nat.reduceEqDiff, Nat.reduceAdd, Nat.reduceMul, Nat.reduceSub, Nat.reduceLT, Nat.reduceLeDiff, Nat.reducePow, Nat.reduceBEq, Nat.reduceBNe, Int.reduceNeg, Int.reduceBEq, Int.reduceBNe, Int.reduceAdd, Int.reduceSub, Int.reduceMul, Int.reduceLT, Int.reduceLE, Int.reduceToNat, Int.reduceEq, Int.reduceNe, List.take_length, take_map_len, runesOf_eq, runeBytes_map, an_maps_Range_side, nf_maps_Range_side, fp_maps_Range_side, ty3, ty33, maps_Range.pv_eq, diptychref10_Range.pv_eq, pvL, List.map_nil]
  refine hK _ _ fun nx => ?_; clear hK K; try clear kk
  by_cases h1 : (r_1.Old == (0 : Int)) = true
  · rw [if_pos h1] at hh
    refine awp_true (by first | exact congrArg PV.bool h1 | rfl) ?_
    refine awp_first fun K kk hK => ?_
    simp only [go_sem, ↓reduceIte, reduceCtorEq, Nat.reduceEqDiff, Nat.reduceAdd, Nat.reduceMul, Nat.reduceSub, Nat.reduceLT, Nat.reduceLeDiff, Nat.reducePow, Nat.reduceBEq, Nat.reduceBNe, Int.reduceNeg, Int.reduceBEq, Int.reduceBNe, Int.reduceAdd, Int.reduceSub, Int.reduceMul, Int.reduceLT, Int.reduceLE, Int.reduceToNat, Int.reduceEq, Int.reduceNe, List.take_length, take_map_len, runesOf_eq, runeBytes_map, an_maps_Range_side, nf_maps_Range_side, fp_maps_Range_side, ty3, ty33, maps_Range.pv_eq, diptychref10_Range.pv_eq, pvL, List.map_nil]
    refine hK _ _ fun nx => ?_; clear hK K; try clear kk
    refine awp_ret ?_; (repeat (with_reducible first | refine then_n ?_ | refine then_r ?_ | refine then_e ?_ | refine block_n ?_ | refine block_r ?_ | refine exit_here ?_ | refine exit_on rfl ?_ | refine scope_n ?_ | refine scope_r ?_ | refine scope_e ?_ | refine cut_awp ?_))
    obtain hR := Option.some.inj hh
    subst hR
    refine ret_pure2 ?_ (by rfl)
    simp only [go_sem, ↓reduceIte, reduceCtorEq, Nat.reduceEqDiff, Nat.reduceAdd, Nat.reduceMul, Nat.reduceSub, Nat.reduceLT, Nat.reduceLeDiff, Nat.reducePow, Nat.reduceBEq, Nat.reduceBNe, Int.reduceNeg, Int.reduceBEq, Int.reduceBNe, Int.reduceAdd, Int.reduceSub, Int.reduceMul, Int.reduceLT, Int.reduceLE, Int.reduceToNat, Int.reduceEq, Int.reduceNe, List.take_length, take_map_len, runesOf_eq, runeBytes_map, an_maps_Range_side, nf_maps_Range_side, fp_maps_Range_side, ty3, ty33, maps_Range.pv_eq, diptychref10_Range.pv_eq, pvL, List.map_nil, rvsRes, rvRes, cellRes, tupOf, pur2, List.map_cons, List.map_append, List.head?_cons]
    (repeat (first | exact Wk.refl _ | exact WkL.refl _ | exact Wk.nil _ | refine Wk.agg _ _ ?_ | refine Wk.tup _ _ ?_ | refine WkL.cons _ _ _ _ ?_ ?_ | exact WkL.nil))
  · rw [if_neg h1] at hh
    replace h1 := Bool.eq_false_iff.mpr h1
    refine awp_false (by first | exact congrArg PV.bool h1 | rfl) ?_
    refine awp_first fun K kk hK => ?_
    simp only [go_sem, ↓reduceIte, reduceCtorEq, Nat.reduceEqDiff, Nat.reduceAdd, Nat.reduceMul, Nat.reduceSub, Nat.reduceLT, Nat.reduceLeDiff, Nat.reducePow, Nat.reduceBEq, Nat.reduceBNe, Int.reduceNeg, Int.reduceBEq, Int.reduceBNe, Int.reduceAdd, Int.reduceSub, Int.reduceMul, Int.reduceLT, Int.reduceLE, Int.reduceToNat, Int.reduceEq, Int.reduceNe, List.take_length, take_map_len, runesOf_eq, runeBytes_map, an_maps_Range_side, nf_maps_Range_side, fp_maps_Range_side, ty3, ty33, maps_Range.pv_eq, diptychref10_Range.pv_eq, pvL, List.map_nil]
    refine hK _ _ fun nx => ?_; clear hK K; try clear kk
    by_cases h2 : (pos_2 == r_1.Pos) = true
    · rw [if_pos h2] at hh
      refine awp_true (by first | exact congrArg PV.bool h2 | rfl) ?_
      refine awp_first fun K kk hK => ?_
      simp only [go_sem, ↓reduceIte, reduceCtorEq, Nat.reduceEqDiff, Nat.reduceAdd, Nat.reduceMul, Nat.reduceSub, Nat.reduceLT, Nat.reduceLeDiff, Nat.reducePow, Nat.reduceBEq, Nat.reduceBNe, Int.reduceNeg, Int.reduceBEq, Int.reduceBNe, Int.reduceAdd, Int.reduceSub, Int.reduceMul, Int.reduceLT, Int.reduceLE, Int.reduceToNat, Int.reduceEq, Int.reduceNe, List.take_length, take_map_len, runesOf_eq, runeBytes_map, an_maps_Range_side, nf_maps_Range_side, fp_maps_Range_side, ty3, ty33, maps_Range.pv_eq, diptychref10_Range.pv_eq, pvL, List.map_nil]
      refine hK _ _ fun nx => ?_; clear hK K; try clear kk
      refine awp_ret ?_; (repeat (with_reducible first | refine then_n ?_ | refine then_r ?_ | refine then_e ?_ | refine block_n ?_ | refine block_r ?_ | refine exit_here ?_ | refine exit_on rfl ?_ | refine scope_n ?_ | refine scope_r ?_ | refine scope_e ?_ | refine cut_awp ?_))
      obtain hR := Option.some.inj hh
      subst hR
      refine ret_pure2 ?_ (by rfl)
      simp only [go_sem, ↓reduceIte, reduceCtorEq, Nat.reduceEqDiff, Nat.reduceAdd, Nat.reduceMul, Nat.reduceSub, Nat.reduceLT, Nat.reduceLeDiff, Nat.reducePow, Nat.reduceBEq, Nat.reduceBNe, Int.reduceNeg, Int.reduceBEq, Int.reduceBNe, Int.reduceAdd, Int.reduceSub, Int.reduceMul, Int.reduceLT, Int.reduceLE, Int.reduceToNat, Int.reduceEq, Int.reduceNe, List.take_length, take_map_len, runesOf_eq, runeBytes_map, an_maps_Range_side, nf_maps_Range_side, fp_maps_Range_side, ty3, ty33, maps_Range.pv_eq, diptychref10_Range.pv_eq, pvL, List.map_nil, rvsRes, rvRes, cellRes, tupOf, pur2, List.map_cons, List.map_append, List.head?_cons]
      (repeat (first | exact Wk.refl _ | exact WkL.refl _ | exact Wk.nil _ | refine Wk.agg _ _ ?_ | refine Wk.tup _ _ ?_ | refine WkL.cons _ _ _ _ ?_ ?_ | exact WkL.nil))
    · rw [if_neg h2] at hh
      replace h2 := Bool.eq_false_iff.mpr h2
      refine awp_false (by first | exact congrArg PV.bool h2 | rfl) ?_
      refine awp_skip ?_; (repeat (with_reducible first | refine then_n ?_ | refine then_r ?_ | refine then_e ?_ | refine block_n ?_ | refine block_r ?_ | refine exit_here ?_ | refine exit_on rfl ?_ | refine scope_n ?_ | refine scope_r ?_ | refine scope_e ?_ | refine cut_awp ?_))
      by_cases h3 : (right_3) = true
      · rw [if_pos h3] at hh
        refine awp_first fun K kk hK => ?_
        simp only [go_sem, ↓reduceIte, reduceCtorEq, Nat.reduceEqDiff, Nat.reduceAdd, Nat.reduceMul, Nat.reduceSub, Nat.reduceLT, Nat.reduceLeDiff, Nat.reducePow, Nat.reduceBEq, Nat.reduceBNe, Int.reduceNeg, Int.reduceBEq, Int.reduceBNe, Int.reduceAdd, Int.reduceSub, Int.reduceMul, Int.reduceLT, Int.reduceLE, Int.reduceToNat, Int.reduceEq, Int.reduceNe, List.take_length, take_map_len, runesOf_eq, runeBytes_map, an_maps_Range_side, nf_maps_Range_side, fp_maps_Range_side, ty3, ty33, maps_Range.pv_eq, diptychref10_Range.pv_eq, pvL, List.map_nil, h3, h3]
        refine hK _ _ fun nx => ?_; clear hK K; try clear kk
        refine awp_ret ?_; (repeat (with_reducible first | refine then_n ?_ | refine then_r ?_ | refine then_e ?_ | refine block_n ?_ | refine block_r ?_ | refine exit_here ?_ | refine exit_on rfl ?_ | refine scope_n ?_ | refine scope_r ?_ | refine scope_e ?_ | refine cut_awp ?_))
        obtain hR := Option.some.inj hh
        subst hR
        refine ret_pure2 ?_ (by rfl)
        simp only [go_sem, ↓reduceIte, reduceCtorEq, Nat.reduceEqDiff, Nat.reduceAdd, Nat.reduceMul, Nat.reduceSub, Nat.reduceLT, Nat.reduceLeDiff, Nat.reducePow, Nat.reduceBEq, Nat.reduceBNe, Int.reduceNeg, Int.reduceBEq, Int.reduceBNe, Int.reduceAdd, Int.reduceSub, Int.reduceMul, Int.reduceLT, Int.reduceLE, Int.reduceToNat, Int.reduceEq, Int.reduceNe, List.take_length, take_map_len, runesOf_eq, runeBytes_map, an_maps_Range_side, nf_maps_Range_side, fp_maps_Range_side, ty3, ty33, maps_Range.pv_eq, diptychref10_Range.pv_eq, pvL, List.map_nil, rvsRes, rvRes, cellRes, tupOf, pur2, List.map_cons, List.map_append, List.head?_cons]
        (repeat (first | exact Wk.refl _ | exact WkL.refl _ | exact Wk.nil _ | refine Wk.agg _ _ ?_ | refine Wk.tup _ _ ?_ | refine WkL.cons _ _ _ _ ?_ ?_ | exact WkL.nil))
      · rw [if_neg h3] at hh
        replace h3 := Bool.eq_false_iff.mpr h3
        obtain ⟨end_4, h4, hh⟩ := bind_ex hh
        refine awp_first fun K kk hK => ?_
        simp only [go_sem, ↓reduceIte, reduceCtorEq, Nat.reduceEqDiff, Nat.reduceAdd, Nat.reduceMul, Nat.reduceSub, Nat.reduceLT, Nat.reduceLeDiff, Nat.reducePow, Nat.reduceBEq, Nat.reduceBNe, Int.reduceNeg, Int.reduceBEq, Int.reduceBNe, Int.reduceAdd, Int.reduceSub, Int.reduceMul, Int.reduceLT, Int.reduceLE, Int.reduceToNat, Int.reduceEq, Int.reduceNe, List.take_length, take_map_len, runesOf_eq, runeBytes_map, an_maps_Range_side, nf_maps_Range_side, fp_maps_Range_side, ty3, ty33, maps_Range.pv_eq, diptychref10_Range.pv_eq, pvL, List.map_nil, h3, h3]
        refine step_call2 (maps_Range_end_ok _ _ h4) (by simp only [go_sem, ↓reduceIte, reduceCtorEq, Nat.reduceEqDiff, Nat.reduceAdd, Nat.reduceMul, Nat.reduceSub, Nat.reduceLT, Nat.reduceLeDiff, Nat.reducePow, Nat.reduceBEq, Nat.reduceBNe, Int.reduceNeg, Int.reduceBEq, Int.reduceBNe, Int.reduceAdd, Int.reduceSub, Int.reduceMul, Int.reduceLT, Int.reduceLE, Int.reduceToNat, Int.reduceEq, Int.reduceNe, List.take_length, take_map_len, runesOf_eq, runeBytes_map, an_maps_Range_side, nf_maps_Range_side, fp_maps_Range_side, ty3, ty33, maps_Range.pv_eq, diptychref10_Range.pv_eq, pvL, List.map_nil, h3, h3]; (repeat (first | exact WkL.refl _ | exact Wk.refl _ | exact Wk.nil _ | refine WkL.cons _ _ _ _ ?_ ?_ | exact WkL.nil | refine Wk.agg _ _ ?_ | refine Wk.tup _ _ ?_))) (by rfl) (by rfl) ?_
        simp only [go_sem, ↓reduceIte, reduceCtorEq, Nat.reduceEqDiff, Nat.reduceAdd, Nat.reduceMul, Nat.reduceSub, Nat.reduceLT, Nat.reduceLeDiff, Nat.reducePow, Nat.reduceBEq, Nat.reduceBNe, Int.reduceNeg, Int.reduceBEq, Int.reduceBNe, Int.reduceAdd, Int.reduceSub, Int.reduceMul, Int.reduceLT, Int.reduceLE, Int.reduceToNat, Int.reduceEq, Int.reduceNe, List.take_length, take_map_len, runesOf_eq, runeBytes_map, an_maps_Range_side, nf_maps_Range_side, fp_maps_Range_side, ty3, ty33, maps_Range.pv_eq, diptychref10_Range.pv_eq, pvL, List.map_nil, h3, h3]
        refine hK _ _ fun nx => ?_; clear hK K; try clear kk
        refine awp_ret ?_; (repeat (with_reducible first | refine then_n ?_ | refine then_r ?_ | refine then_e ?_ | refine block_n ?_ | refine block_r ?_ | refine exit_here ?_ | refine exit_on rfl ?_ | refine scope_n ?_ | refine scope_r ?_ | refine scope_e ?_ | refine cut_awp ?_))
        obtain hR := Option.some.inj hh
        subst hR
        refine ret_pure2 ?_ (by rfl)
        simp only [go_sem, ↓reduceIte, reduceCtorEq, Nat.reduceEqDiff, Nat.reduceAdd, Nat.reduceMul, Nat.reduceSub, Nat.reduceLT, Nat.reduceLeDiff, Nat.reducePow, Nat.reduceBEq, Nat.reduceBNe, Int.reduceNeg, Int.reduceBEq, Int.reduceBNe, Int.reduceAdd, Int.reduceSub, Int.reduceMul, Int.reduceLT, Int.reduceLE, Int.reduceToNat, Int.reduceEq, Int.reduceNe, List.take_length, take_map_len, runesOf_eq, runeBytes_map, an_maps_Range_side, nf_maps_Range_side, fp_maps_Range_side, ty3, ty33, maps_Range.pv_eq, diptychref10_Range.pv_eq, pvL, List.map_nil, rvsRes, rvRes, cellRes, tupOf, pur2, List.map_cons, List.map_append, List.head?_cons]
        (repeat (first | exact Wk.refl _ | exact WkL.refl _ | exact Wk.nil _ | refine Wk.agg _ _ ?_ | refine Wk.tup _ _ ?_ | refine WkL.cons _ _ _ _ ?_ ?_ | exact WkL.nil))
theorem maps_To_ok (m_1 : (List maps_Range)) (pos_2 : Int) (right_3 : Bool) (R : Int) (hh : maps_To m_1 pos_2 right_3 = some R) : PC Try.prog 18 [.list 3 (m_1.map maps_Range.pv), .int .i64 pos_2, .bool right_3] (.int .i64 R) := by
  rw [maps_To] at hh
  refine start_maps_To rfl ?_
  refine awp_first fun K kk hK => ?_
  simp only [go_sem, ↓reduceIte, reduceCtorEq, Nat.reduceEqDiff, Nat.reduceAdd, Nat.reduceMul, Nat.reduceSub, Nat.reduceLT, Nat.reduceLeDiff, Nat.reducePow, Nat.reduceBEq, Nat.reduceBNe, Int.reduceNeg, Int.reduceBEq, Int.reduceBNe, Int.reduceAdd, Int.reduceSub, Int.reduceMul, Int.reduceLT, Int.reduceLE, Int.reduceToNat, Int.reduceEq, Int.reduceNe, List.take_length, take_map_len, runesOf_eq, runeBytes_map, an_maps_To, nf_maps_To, fp_maps_To, ty3, ty25, ty33, maps_Range.pv_eq, diptychref10_Range.pv_eq, pvL, List.map_nil]
  refine hK _ _ fun nx => ?_; clear hK K; try clear kk
  refine awp_scope ?_
  refine awp_first fun K kk hK => ?_
  simp only [go_sem, ↓reduceIte, reduceCtorEq, Nat.reduceEqDiff, Nat.reduceAdd, Nat.reduceMul, Nat.reduceSub, Nat.reduceLT, Nat.reduceLeDiff, Nat.reducePow, Nat.reduceBEq, Nat.reduceBNe, Int.reduceNeg, Int.reduceBEq, Int.reduceBNe, Int.reduceAdd, Int.reduceSub, Int.reduceMul, Int.reduceLT, Int.reduceLE, Int.reduceToNat, Int.reduceEq, Int.reduceNe, List.take_length, take_map_len, runesOf_eq, runeBytes_map, an_maps_To, nf_maps_To, fp_maps_To, ty3, ty25, ty33, maps_Range.pv_eq, diptychref10_Range.pv_eq, pvL, List.map_nil]
  refine hK _ _ fun nx => ?_; clear hK K; try clear kk
  refine awp_seq ?_
  refine awp_label ?_; (repeat (with_reducible first | refine then_n ?_ | refine then_r ?_ | refine then_e ?_ | refine block_n ?_ | refine block_r ?_ | refine exit_here ?_ | refine exit_on rfl ?_ | refine scope_n ?_ | refine scope_r ?_ | refine scope_e ?_ | refine cut_awp ?_))
  refine awp_seq ?_
  refine awp_first fun K kk hK => ?_
  simp only [go_sem, ↓reduceIte, reduceCtorEq, Nat.reduceEqDiff, Nat.reduceAdd, Nat.reduceMul, Nat.reduceSub, Nat.reduceLT, Nat.reduceLeDiff, Nat.reducePow, Nat.reduceBEq, Nat.reduceBNe, Int.reduceNeg, Int.reduceBEq, Int.reduceBNe, Int.reduceAdd, Int.reduceSub, Int.reduceMul, Int.reduceLT, Int.reduceLE, Int.reduceToNat, Int.reduceEq, Int.reduceNe, List.take_length, take_map_len, runesOf_eq, runeBytes_map, an_maps_To, nf_maps_To, fp_maps_To, ty3, ty25, ty33, maps_Range.pv_eq, diptychref10_Range.pv_eq, pvL, List.map_nil]
  refine hK _ _ fun nx => ?_; clear hK K; try clear kk
  obtain ⟨e0, f0, hh⟩ := bind_ex hh
  obtain ⟨hlen0, f0⟩ := chk_some f0
  refine awp_fragE (CutTo (fun s => ∃ shift_16, .inr shift_16 = e0 ∧ ∃ (nx : Nat), s = ⟨[(1, .int .i64 pos_2), (2, .bool right_3), (7, .int .i64 shift_16)], [], nx⟩))
    (fun i s => False)
    (fun s => ∃ res_15, .inl res_15 = e0 ∧ bodyR Try.prog [.tmp 6] (.int .i64 res_15) [] .ret s) ?_ ?_ ?_ ?_
  · refine awp_block ?_
    refine awp_loopJ fun I hI => ?_
    have key : ∀ (suf pre : List maps_Range) (v_8 : Int) (shift_7 : Int), m_1 = pre ++ suf → v_8 = (pre.length : Int) → maps_To_l0 pos_2 right_3 suf v_8 shift_7 = some e0 → ∀ (nx : Nat), I ⟨[(1, .int .i64 pos_2), (2, .bool right_3), (7, .int .i64 shift_7), (10, .list 3 (m_1.map maps_Range.pv)), (11, .int .i64 (m_1.length : Int)), (12, .int .i64 v_8)], [], nx⟩ := by
      intro suf
      induction suf with
      | nil =>
        intro pre v_8 shift_7 hsplit hidx hh nx
        rw [maps_To_l0] at hh
        refine hI _ ?_
        have h15 := walk_nil hsplit hidx
        refine awp_first fun K kk hK => ?_
        simp only [go_sem, ↓reduceIte, reduceCtorEq, Nat.reduceEqDiff, Nat.reduceAdd, Nat.reduceMul, Nat.reduceSub, Nat.reduceLT, Nat.reduceLeDiff, Nat.reducePow, Nat.reduceBEq, Nat.reduceBNe, Int.reduceNeg, Int.reduceBEq, Int.reduceBNe, Int.reduceAdd, Int.reduceSub, Int.reduceMul, Int.reduceLT, Int.reduceLE, Int.reduceToNat, Int.reduceEq, Int.reduceNe, List.take_length, take_map_len, runesOf_eq, runeBytes_map, an_maps_To, nf_maps_To, fp_maps_To, ty3, ty25, ty33, maps_Range.pv_eq, diptychref10_Range.pv_eq, pvL, List.map_nil]
        refine hK _ _ fun nx => ?_; clear hK K; try clear kk
        refine awp_seq ?_
        refine awp_false (by first | exact congrArg PV.bool h15 | rfl) ?_
        refine awp_exit ?_; (repeat (with_reducible first | refine then_n ?_ | refine then_r ?_ | refine then_e ?_ | refine block_n ?_ | refine block_r ?_ | refine exit_here ?_ | refine exit_on rfl ?_ | refine scope_n ?_ | refine scope_r ?_ | refine scope_e ?_ | refine cut_awp ?_))
        refine fragN ?_
        refine cut_to (less_cut _ [1, 2, 7] []) ?_
        refine ⟨_, (Option.some.inj hh), ?_⟩
        first | exact ⟨_, rfl⟩ | (simp only [maps_Range.pv_eq, diptychref10_Range.pv_eq, pvL, List.map_cons, List.map_nil, List.map_append]; exact ⟨_, rfl⟩)
      | cons y_12 suf ih =>
        intro pre v_8 shift_7 hsplit hidx hh nx
        rw [maps_To_l0] at hh
        refine hI _ ?_
        obtain ⟨hl0a, hl0b, hl0d, hl0w, h15⟩ := walk_cons (f := maps_Range.pv) hsplit hidx hlen0
        refine awp_first fun K kk hK => ?_
        simp only [go_sem, ↓reduceIte, reduceCtorEq, Nat.reduceEqDiff, Nat.reduceAdd, Nat.reduceMul, Nat.reduceSub, Nat.reduceLT, Nat.reduceLeDiff, Nat.reducePow, Nat.reduceBEq, Nat.reduceBNe, Int.reduceNeg, Int.reduceBEq, Int.reduceBNe, Int.reduceAdd, Int.reduceSub, Int.reduceMul, Int.reduceLT, Int.reduceLE, Int.reduceToNat, Int.reduceEq, Int.reduceNe, List.take_length, take_map_len, runesOf_eq, runeBytes_map, an_maps_To, nf_maps_To, fp_maps_To, ty3, ty25, ty33, maps_Range.pv_eq, diptychref10_Range.pv_eq, pvL, List.map_nil]
        refine hK _ _ fun nx => ?_; clear hK K; try clear kk
        refine awp_seq ?_
        refine awp_true (by first | exact congrArg PV.bool h15 | rfl) ?_
        refine awp_skip ?_; (repeat (with_reducible first | refine then_n ?_ | refine then_r ?_ | refine then_e ?_ | refine block_n ?_ | refine block_r ?_ | refine exit_here ?_ | refine exit_on rfl ?_ | refine scope_n ?_ | refine scope_r ?_ | refine scope_e ?_ | refine cut_awp ?_))
        refine awp_seq ?_
        refine awp_block ?_
        refine awp_first fun K kk hK => ?_
        simp only [go_sem, ↓reduceIte, reduceCtorEq, Nat.reduceEqDiff, Nat.reduceAdd, Nat.reduceMul, Nat.reduceSub, Nat.reduceLT, Nat.reduceLeDiff, Nat.reducePow, Nat.reduceBEq, Nat.reduceBNe, Int.reduceNeg, Int.reduceBEq, Int.reduceBNe, Int.reduceAdd, Int.reduceSub, Int.reduceMul, Int.reduceLT, Int.reduceLE, Int.reduceToNat, Int.reduceEq, Int.reduceNe, List.take_length, take_map_len, runesOf_eq, runeBytes_map, an_maps_To, nf_maps_To, fp_maps_To, ty3, ty25, ty33, maps_Range.pv_eq, diptychref10_Range.pv_eq, pvL, List.map_nil, hl0a, hl0b, hl0d, hl0w]
        refine hK _ _ fun nx => ?_; clear hK K; try clear kk
        refine awp_block ?_
        obtain ⟨end_13, h16, hh⟩ := bind_ex hh
        refine awp_first fun K kk hK => ?_
        simp only [go_sem, ↓reduceIte, reduceCtorEq, Nat.reduceEqDiff, Nat.reduceAdd, Nat.reduceMul, Nat.reduceSub, Nat.reduceLT, Nat.reduceLeDiff, Nat.reducePow, Nat.reduceBEq, Nat.reduceBNe, Int.reduceNeg, Int.reduceBEq, Int.reduceBNe, Int.reduceAdd, Int.reduceSub, Int.reduceMul, Int.reduceLT, Int.reduceLE, Int.reduceToNat, Int.reduceEq, Int.reduceNe, List.take_length, take_map_len, runesOf_eq, runeBytes_map, an_maps_To, nf_maps_To, fp_maps_To, ty3, ty25, ty33, maps_Range.pv_eq, diptychref10_Range.pv_eq, pvL, List.map_nil, hl0a, hl0b, hl0d, hl0w]
        refine step_call2 (maps_Range_end_ok _ _ h16) (by simp only [go_sem, ↓reduceIte, reduceCtorEq, Nat.reduceEqDiff, Nat.reduceAdd, Nat.reduceMul, Nat.reduceSub, Nat.reduceLT, Nat.reduceLeDiff, Nat.reducePow, Nat.reduceBEq, Nat.reduceBNe, Int.reduceNeg, Int.reduceBEq, Int.reduceBNe, Int.reduceAdd, Int.reduceSub, Int.reduceMul, Int.reduceLT, Int.reduceLE, Int.reduceToNat, Int.reduceEq, Int.reduceNe, List.take_length, take_map_len, runesOf_eq, runeBytes_map, an_maps_To, nf_maps_To, fp_maps_To, ty3, ty25, ty33, maps_Range.pv_eq, diptychref10_Range.pv_eq, pvL, List.map_nil, hl0a, hl0b, hl0d, hl0w]; (repeat (first | exact WkL.refl _ | exact Wk.refl _ | exact Wk.nil _ | refine WkL.cons _ _ _ _ ?_ ?_ | exact WkL.nil | refine Wk.agg _ _ ?_ | refine Wk.tup _ _ ?_))) (by rfl) (by rfl) ?_
        simp only [go_sem, ↓reduceIte, reduceCtorEq, Nat.reduceEqDiff, Nat.reduceAdd, Nat.reduceMul, Nat.reduceSub, Nat.reduceLT, Nat.reduceLeDiff, Nat.reducePow, Nat.reduceBEq, Nat.reduceBNe, Int.reduceNeg, Int.reduceBEq, Int.reduceBNe, Int.reduceAdd, Int.reduceSub, Int.reduceMul, Int.reduceLT, Int.reduceLE, Int.reduceToNat, Int.reduceEq, Int.reduceNe, List.take_length, take_map_len, runesOf_eq, runeBytes_map, an_maps_To, nf_maps_To, fp_maps_To, ty3, ty25, ty33, maps_Range.pv_eq, diptychref10_Range.pv_eq, pvL, List.map_nil, hl0a, hl0b, hl0d, hl0w]
        refine hK _ _ fun nx => ?_; clear hK K; try clear kk
        by_cases h17 : (decide (end_13 < pos_2)) = true
        · rw [if_pos h17] at hh
          refine awp_true (by first | exact congrArg PV.bool h17 | rfl) ?_
          refine awp_region fun K kk hK => ?_
          simp only [go_sem, ↓reduceIte, reduceCtorEq, Nat.reduceEqDiff, Nat.reduceAdd, Nat.reduceMul, Nat.reduceSub, Nat.reduceLT, Nat.reduceLeDiff, Nat.reducePow, Nat.reduceBEq, Nat.reduceBNe, Int.reduceNeg, Int.reduceBEq, Int.reduceBNe, Int.reduceAdd, Int.reduceSub, Int.reduceMul, Int.reduceLT, Int.reduceLE, Int.reduceToNat, Int.reduceEq, Int.reduceNe, List.take_length, take_map_len, runesOf_eq, runeBytes_map, an_maps_To, nf_maps_To, fp_maps_To, ty3, ty25, ty33, maps_Range.pv_eq, diptychref10_Range.pv_eq, pvL, List.map_nil, hl0a, hl0b, hl0d, hl0w]
          refine hK _ _ fun nx => ?_; clear hK K; try clear kk
          (repeat (with_reducible first | refine then_n ?_ | refine then_r ?_ | refine then_e ?_ | refine block_n ?_ | refine block_r ?_ | refine exit_here ?_ | refine exit_on rfl ?_ | refine scope_n ?_ | refine scope_r ?_ | refine scope_e ?_ | refine cut_awp ?_))
          refine awp_region fun K kk hK => ?_
          simp only [go_sem, ↓reduceIte, reduceCtorEq, Nat.reduceEqDiff, Nat.reduceAdd, Nat.reduceMul, Nat.reduceSub, Nat.reduceLT, Nat.reduceLeDiff, Nat.reducePow, Nat.reduceBEq, Nat.reduceBNe, Int.reduceNeg, Int.reduceBEq, Int.reduceBNe, Int.reduceAdd, Int.reduceSub, Int.reduceMul, Int.reduceLT, Int.reduceLE, Int.reduceToNat, Int.reduceEq, Int.reduceNe, List.take_length, take_map_len, runesOf_eq, runeBytes_map, an_maps_To, nf_maps_To, fp_maps_To, ty3, ty25, ty33, maps_Range.pv_eq, diptychref10_Range.pv_eq, pvL, List.map_nil, hl0a, hl0b, hl0d, hl0w]
          refine hK _ _ fun nx => ?_; clear hK K; try clear kk
          (repeat (with_reducible first | refine then_n ?_ | refine then_r ?_ | refine then_e ?_ | refine block_n ?_ | refine block_r ?_ | refine exit_here ?_ | refine exit_on rfl ?_ | refine scope_n ?_ | refine scope_r ?_ | refine scope_e ?_ | refine cut_awp ?_))
          have ih' := ih (pre ++ [y_12]) (v_8 + 1) _ (by rw [hsplit]; simp) (by simp [hidx]) hh nx
          refine cut_id ?_
          first | exact ih' | (simp only [maps_Range.pv_eq, diptychref10_Range.pv_eq, pvL, List.map_cons, List.map_nil, List.map_append] at ih' ⊢; exact ih')
        · rw [if_neg h17] at hh
          replace h17 := Bool.eq_false_iff.mpr h17
          refine awp_false (by first | exact congrArg PV.bool h17 | rfl) ?_
          refine awp_first fun K kk hK => ?_
          simp only [go_sem, ↓reduceIte, reduceCtorEq, Nat.reduceEqDiff, Nat.reduceAdd, Nat.reduceMul, Nat.reduceSub, Nat.reduceLT, Nat.reduceLeDiff, Nat.reducePow, Nat.reduceBEq, Nat.reduceBNe, Int.reduceNeg, Int.reduceBEq, Int.reduceBNe, Int.reduceAdd, Int.reduceSub, Int.reduceMul, Int.reduceLT, Int.reduceLE, Int.reduceToNat, Int.reduceEq, Int.reduceNe, List.take_length, take_map_len, runesOf_eq, runeBytes_map, an_maps_To, nf_maps_To, fp_maps_To, ty3, ty25, ty33, maps_Range.pv_eq, diptychref10_Range.pv_eq, pvL, List.map_nil, hl0a, hl0b, hl0d, hl0w]
          refine hK _ _ fun nx => ?_; clear hK K; try clear kk
          by_cases h18 : (decide (y_12.Pos > pos_2)) = true
          · rw [if_pos h18] at hh
            refine awp_true (by first | exact congrArg PV.bool h18 | rfl) ?_
            refine awp_exit ?_; (repeat (with_reducible first | refine then_n ?_ | refine then_r ?_ | refine then_e ?_ | refine block_n ?_ | refine block_r ?_ | refine exit_here ?_ | refine exit_on rfl ?_ | refine scope_n ?_ | refine scope_r ?_ | refine scope_e ?_ | refine cut_awp ?_))
            refine fragN ?_
            refine cut_to (less_cut _ [1, 2, 7] []) ?_
            refine ⟨_, (Option.some.inj hh), ?_⟩
            first | exact ⟨_, rfl⟩ | (simp only [maps_Range.pv_eq, diptychref10_Range.pv_eq, pvL, List.map_cons, List.map_nil, List.map_append]; exact ⟨_, rfl⟩)
          · rw [if_neg h18] at hh
            replace h18 := Bool.eq_false_iff.mpr h18
            refine awp_false (by first | exact congrArg PV.bool h18 | rfl) ?_
            obtain ⟨side_14, h19, hh⟩ := bind_ex hh
            refine awp_first fun K kk hK => ?_
            simp only [go_sem, ↓reduceIte, reduceCtorEq, Nat.reduceEqDiff, Nat.reduceAdd, Nat.reduceMul, Nat.reduceSub, Nat.reduceLT, Nat.reduceLeDiff, Nat.reducePow, Nat.reduceBEq, Nat.reduceBNe, Int.reduceNeg, Int.reduceBEq, Int.reduceBNe, Int.reduceAdd, Int.reduceSub, Int.reduceMul, Int.reduceLT, Int.reduceLE, Int.reduceToNat, Int.reduceEq, Int.reduceNe, List.take_length, take_map_len, runesOf_eq, runeBytes_map, an_maps_To, nf_maps_To, fp_maps_To, ty3, ty25, ty33, maps_Range.pv_eq, diptychref10_Range.pv_eq, pvL, List.map_nil, hl0a, hl0b, hl0d, hl0w]
            refine step_call2 (maps_Range_side_ok _ _ _ _ h19) (by simp only [go_sem, ↓reduceIte, reduceCtorEq, Nat.reduceEqDiff, Nat.reduceAdd, Nat.reduceMul, Nat.reduceSub, Nat.reduceLT, Nat.reduceLeDiff, Nat.reducePow, Nat.reduceBEq, Nat.reduceBNe, Int.reduceNeg, Int.reduceBEq, Int.reduceBNe, Int.reduceAdd, Int.reduceSub, Int.reduceMul, Int.reduceLT, Int.reduceLE, Int.reduceToNat, Int.reduceEq, Int.reduceNe, List.take_length, take_map_len, runesOf_eq, runeBytes_map, an_maps_To, nf_maps_To, fp_maps_To, ty3, ty25, ty33, maps_Range.pv_eq, diptychref10_Range.pv_eq, pvL, List.map_nil, hl0a, hl0b, hl0d, hl0w]; (repeat (first | exact WkL.refl _ | exact Wk.refl _ | exact Wk.nil _ | refine WkL.cons _ _ _ _ ?_ ?_ | exact WkL.nil | refine Wk.agg _ _ ?_ | refine Wk.tup _ _ ?_))) (by rfl) (by rfl) ?_
            simp only [go_sem, ↓reduceIte, reduceCtorEq, Nat.reduceEqDiff, Nat.reduceAdd, Nat.reduceMul, Nat.reduceSub, Nat.reduceLT, Nat.reduceLeDiff, Nat.reducePow, Nat.reduceBEq, Nat.reduceBNe, Int.reduceNeg, Int.reduceBEq, Int.reduceBNe, Int.reduceAdd, Int.reduceSub, Int.reduceMul, Int.reduceLT, Int.reduceLE, Int.reduceToNat, Int.reduceEq, Int.reduceNe, List.take_length, take_map_len, runesOf_eq, runeBytes_map, an_maps_To, nf_maps_To, fp_maps_To, ty3, ty25, ty33, maps_Range.pv_eq, diptychref10_Range.pv_eq, pvL, List.map_nil, hl0a, hl0b, hl0d, hl0w]
            refine hK _ _ fun nx => ?_; clear hK K; try clear kk
            by_cases h20 : (side_14) = true
            · rw [if_pos h20] at hh
              refine awp_true (by first | exact congrArg PV.bool h20 | rfl) ?_
              refine awp_first fun K kk hK => ?_
              simp only [go_sem, ↓reduceIte, reduceCtorEq, Nat.reduceEqDiff, Nat.reduceAdd, Nat.reduceMul, Nat.reduceSub, Nat.reduceLT, Nat.reduceLeDiff, Nat.reducePow, Nat.reduceBEq, Nat.reduceBNe, Int.reduceNeg, Int.reduceBEq, Int.reduceBNe, Int.reduceAdd, Int.reduceSub, Int.reduceMul, Int.reduceLT, Int.reduceLE, Int.reduceToNat, Int.reduceEq, Int.reduceNe, List.take_length, take_map_len, runesOf_eq, runeBytes_map, an_maps_To, nf_maps_To, fp_maps_To, ty3, ty25, ty33, maps_Range.pv_eq, diptychref10_Range.pv_eq, pvL, List.map_nil, hl0a, hl0b, hl0d, hl0w]
              refine hK _ _ fun nx => ?_; clear hK K; try clear kk
              refine awp_ret ?_; (repeat (with_reducible first | refine then_n ?_ | refine then_r ?_ | refine then_e ?_ | refine block_n ?_ | refine block_r ?_ | refine exit_here ?_ | refine exit_on rfl ?_ | refine scope_n ?_ | refine scope_r ?_ | refine scope_e ?_ | refine cut_awp ?_))
              refine fragR ⟨_, (Option.some.inj hh), ?_⟩
              refine ret_pure2 ?_ (by rfl)
              simp only [go_sem, ↓reduceIte, reduceCtorEq, Nat.reduceEqDiff, Nat.reduceAdd, Nat.reduceMul, Nat.reduceSub, Nat.reduceLT, Nat.reduceLeDiff, Nat.reducePow, Nat.reduceBEq, Nat.reduceBNe, Int.reduceNeg, Int.reduceBEq, Int.reduceBNe, Int.reduceAdd, Int.reduceSub, Int.reduceMul, Int.reduceLT, Int.reduceLE, Int.reduceToNat, Int.reduceEq, Int.reduceNe, List.take_length, take_map_len, runesOf_eq, runeBytes_map, an_maps_To, nf_maps_To, fp_maps_To, ty3, ty25, ty33, maps_Range.pv_eq, diptychref10_Range.pv_eq, pvL, List.map_nil, rvsRes, rvRes, cellRes, tupOf, pur2, List.map_cons, List.map_append, List.head?_cons]
              (repeat (first | exact Wk.refl _ | exact WkL.refl _ | exact Wk.nil _ | refine Wk.agg _ _ ?_ | refine Wk.tup _ _ ?_ | refine WkL.cons _ _ _ _ ?_ ?_ | exact WkL.nil))
            · rw [if_neg h20] at hh
              replace h20 := Bool.eq_false_iff.mpr h20
              refine awp_false (by first | exact congrArg PV.bool h20 | rfl) ?_
              refine awp_first fun K kk hK => ?_
              simp only [go_sem, ↓reduceIte, reduceCtorEq, Nat.reduceEqDiff, Nat.reduceAdd, Nat.reduceMul, Nat.reduceSub, Nat.reduceLT, Nat.reduceLeDiff, Nat.reducePow, Nat.reduceBEq, Nat.reduceBNe, Int.reduceNeg, Int.reduceBEq, Int.reduceBNe, Int.reduceAdd, Int.reduceSub, Int.reduceMul, Int.reduceLT, Int.reduceLE, Int.reduceToNat, Int.reduceEq, Int.reduceNe, List.take_length, take_map_len, runesOf_eq, runeBytes_map, an_maps_To, nf_maps_To, fp_maps_To, ty3, ty25, ty33, maps_Range.pv_eq, diptychref10_Range.pv_eq, pvL, List.map_nil, hl0a, hl0b, hl0d, hl0w]
              refine hK _ _ fun nx => ?_; clear hK K; try clear kk
              refine awp_ret ?_; (repeat (with_reducible first | refine then_n ?_ | refine then_r ?_ | refine then_e ?_ | refine block_n ?_ | refine block_r ?_ | refine exit_here ?_ | refine exit_on rfl ?_ | refine scope_n ?_ | refine scope_r ?_ | refine scope_e ?_ | refine cut_awp ?_))
              refine fragR ⟨_, (Option.some.inj hh), ?_⟩
              refine ret_pure2 ?_ (by rfl)
              simp only [go_sem, ↓reduceIte, reduceCtorEq, Nat.reduceEqDiff, Nat.reduceAdd, Nat.reduceMul, Nat.reduceSub, Nat.reduceLT, Nat.reduceLeDiff, Nat.reducePow, Nat.reduceBEq, Nat.reduceBNe, Int.reduceNeg, Int.reduceBEq, Int.reduceBNe, Int.reduceAdd, Int.reduceSub, Int.reduceMul, Int.reduceLT, Int.reduceLE, Int.reduceToNat, Int.reduceEq, Int.reduceNe, List.take_length, take_map_len, runesOf_eq, runeBytes_map, an_maps_To, nf_maps_To, fp_maps_To, ty3, ty25, ty33, maps_Range.pv_eq, diptychref10_Range.pv_eq, pvL, List.map_nil, rvsRes, rvRes, cellRes, tupOf, pur2, List.map_cons, List.map_append, List.head?_cons]
              (repeat (first | exact Wk.refl _ | exact WkL.refl _ | exact Wk.nil _ | refine Wk.agg _ _ ?_ | refine Wk.tup _ _ ?_ | refine WkL.cons _ _ _ _ ?_ ?_ | exact WkL.nil))
    exact key m_1 [] _ _ rfl rfl f0 _
  · rintro s ⟨t, hless, shift_16, rfl, nx, rfl⟩
    try dsimp only at hh
    (repeat (with_reducible first | refine then_n ?_ | refine then_r ?_ | refine then_e ?_ | refine block_n ?_ | refine block_r ?_ | refine exit_here ?_ | refine exit_on rfl ?_ | refine scope_n ?_ | refine scope_r ?_ | refine scope_e ?_))
    first | (refine cut_less hless ?_; try refine cut_awp ?_) | refine frag_less hless ?_
    refine awp_first fun K kk hK => ?_
    simp only [go_sem, ↓reduceIte, reduceCtorEq, Nat.reduceEqDiff, Nat.reduceAdd, Nat.reduceMul, Nat.reduceSub, Nat.reduceLT, Nat.reduceLeDiff, Nat.reducePow, Nat.reduceBEq, Nat.reduceBNe, Int.reduceNeg, Int.reduceBEq, Int.reduceBNe, Int.reduceAdd, Int.reduceSub, Int.reduceMul, Int.reduceLT, Int.reduceLE, Int.reduceToNat, Int.reduceEq, Int.reduceNe, List.take_length, take_map_len, runesOf_eq, runeBytes_map, an_maps_To, nf_maps_To, fp_maps_To, ty3, ty25, ty33, maps_Range.pv_eq, diptychref10_Range.pv_eq, pvL, List.map_nil]
    refine hK _ _ fun nx => ?_; clear hK K; try clear kk
    refine awp_ret ?_; (repeat (with_reducible first | refine then_n ?_ | refine then_r ?_ | refine then_e ?_ | refine block_n ?_ | refine block_r ?_ | refine exit_here ?_ | refine exit_on rfl ?_ | refine scope_n ?_ | refine scope_r ?_ | refine scope_e ?_ | refine cut_awp ?_))
    obtain hR := Option.some.inj hh
    subst hR
    refine ret_pure2 ?_ (by rfl)
    simp only [go_sem, ↓reduceIte, reduceCtorEq, Nat.reduceEqDiff, Nat.reduceAdd, Nat.reduceMul, Nat.reduceSub, Nat.reduceLT, Nat.reduceLeDiff, Nat.reducePow, Nat.reduceBEq, Nat.reduceBNe, Int.reduceNeg, Int.reduceBEq, Int.reduceBNe, Int.reduceAdd, Int.reduceSub, Int.reduceMul, Int.reduceLT, Int.reduceLE, Int.reduceToNat, Int.reduceEq, Int.reduceNe, List.take_length, take_map_len, runesOf_eq, runeBytes_map, an_maps_To, nf_maps_To, fp_maps_To, ty3, ty25, ty33, maps_Range.pv_eq, diptychref10_Range.pv_eq, pvL, List.map_nil, rvsRes, rvRes, cellRes, tupOf, pur2, List.map_cons, List.map_append, List.head?_cons]
    (repeat (first | exact Wk.refl _ | exact WkL.refl _ | exact Wk.nil _ | refine Wk.agg _ _ ?_ | refine Wk.tup _ _ ?_ | refine WkL.cons _ _ _ _ ?_ ?_ | exact WkL.nil))
  · intro i s h; exact h.elim
  · rintro s ⟨res_15, rfl, hb⟩
    try dsimp only at hh
    obtain hR := Option.some.inj hh
    subst hR
    (repeat (with_reducible first | refine then_n ?_ | refine then_r ?_ | refine then_e ?_ | refine block_n ?_ | refine block_r ?_ | refine exit_here ?_ | refine exit_on rfl ?_ | refine scope_n ?_ | refine scope_r ?_ | refine scope_e ?_ | refine cut_awp ?_))
    exact hb

end Go.Proofs.Ytafcbjepmjcpgaa
