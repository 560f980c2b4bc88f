/- What the functions answer, the program answers (2). -/
import Derived.Test.YtacmddgliagpcaaAgC
import Derived.Test.YtacmddgliagpcaaAgF
import Derived.Test.YtacmddgliagpcaaAgK1
namespace Go.Proofs.Ytacmddgliagpcaa
set_option linter.unusedSimpArgs false
set_option linter.unusedVariables false
open Go
set_option maxRecDepth 100000

theorem place_Resolve_ok (n_1 : api_Node) (pos_2 : Int) (R : (place_Spot × Int)) (hh : place_Resolve n_1 pos_2 = some R) : PC Try.prog 6 [.agg [.str n_1.Kind, .str n_1.Text, .list 1 (n_1.Marks.map PV.str), .list 2 (n_1.Attrs.map api_Attr.pv), .list 5 (n_1.Kids.map api_Node.pv)], .int .i64 pos_2] (.tup [.agg [.list 1 (R.1.Path.map (PV.int .i64)), .int .i64 R.1.Index, .int .i64 R.1.Offset], .int .i64 R.2]) := by
  rw [place_Resolve] at hh
  refine start_place_Resolve rfl ?_
  refine awp_first fun K kk hK => ?_
  simp only [go_sem, ↓reduceIte, reduceCtorEq, Nat.reduceEqDiff, Nat.reduceAdd, Nat.reduceMul, Nat.reduceSub, Nat.reduceLT, Nat.reduceLeDiff, Nat.reducePow, Nat.reduceBEq, Nat.reduceBNe, Int.reduceNeg, Int.reduceBEq, Int.reduceBNe, Int.reduceAdd, Int.reduceSub, Int.reduceMul, Int.reduceLT, Int.reduceLE, Int.reduceToNat, Int.reduceEq, Int.reduceNe, List.take_length, take_map_len, runesOf_eq, runeBytes_map, an_place_Resolve, nf_place_Resolve, fp_place_Resolve, ty3, ty9, ty23, ty25, ty27, ty28, ty29, ty31, ty58, diptychlaw4_Cell.pv_eq, place_Spot.pv_eq, api_Attr.pv_eq, api_Node.pv_eq, diptychref4_Spot.pv_eq, pvL, List.map_nil]
  refine hK _ _ fun nx => ?_; clear hK K; try clear kk
  refine awp_scope ?_
  refine awp_seq ?_
  by_cases h1 : (n_1.Kind == ([116, 101, 120, 116] : Str)) = true
  · rw [if_pos h1] at hh
    refine awp_first fun K kk hK => ?_
    simp only [go_sem, ↓reduceIte, reduceCtorEq, Nat.reduceEqDiff, Nat.reduceAdd, Nat.reduceMul, Nat.reduceSub, Nat.reduceLT, Nat.reduceLeDiff, Nat.reducePow, Nat.reduceBEq, Nat.reduceBNe, Int.reduceNeg, Int.reduceBEq, Int.reduceBNe, Int.reduceAdd, Int.reduceSub, Int.reduceMul, Int.reduceLT, Int.reduceLE, Int.reduceToNat, Int.reduceEq, Int.reduceNe, List.take_length, take_map_len, runesOf_eq, runeBytes_map, an_place_Resolve, nf_place_Resolve, fp_place_Resolve, ty3, ty9, ty23, ty25, ty27, ty28, ty29, ty31, ty58, diptychlaw4_Cell.pv_eq, place_Spot.pv_eq, api_Attr.pv_eq, api_Node.pv_eq, diptychref4_Spot.pv_eq, pvL, List.map_nil, h1, h1]
    (repeat (refine And.intro ?_ ?_; focus (first | assumption | (try simp only [List.length_append, List.length_cons, List.length_nil] at *; omega))))
    refine hK _ _ fun nx => ?_; clear hK K; try clear kk
    refine awp_true rfl ?_
    refine awp_first fun K kk hK => ?_
    simp only [go_sem, ↓reduceIte, reduceCtorEq, Nat.reduceEqDiff, Nat.reduceAdd, Nat.reduceMul, Nat.reduceSub, Nat.reduceLT, Nat.reduceLeDiff, Nat.reducePow, Nat.reduceBEq, Nat.reduceBNe, Int.reduceNeg, Int.reduceBEq, Int.reduceBNe, Int.reduceAdd, Int.reduceSub, Int.reduceMul, Int.reduceLT, Int.reduceLE, Int.reduceToNat, Int.reduceEq, Int.reduceNe, List.take_length, take_map_len, runesOf_eq, runeBytes_map, an_place_Resolve, nf_place_Resolve, fp_place_Resolve, ty3, ty9, ty23, ty25, ty27, ty28, ty29, ty31, ty58, diptychlaw4_Cell.pv_eq, place_Spot.pv_eq, api_Attr.pv_eq, api_Node.pv_eq, diptychref4_Spot.pv_eq, pvL, List.map_nil]
    refine hK _ _ fun nx => ?_; clear hK K; try clear kk
    refine awp_ret ?_; (repeat (with_reducible first | refine then_n ?_ | refine then_r ?_ | refine then_e ?_ | refine block_n ?_ | refine block_r ?_ | refine exit_here ?_ | refine exit_on rfl ?_ | refine scope_n ?_ | refine scope_r ?_ | refine scope_e ?_ | refine cut_awp ?_))
    obtain hR := Option.some.inj hh
    subst hR
    refine ret_pure2 ?_ (by rfl)
    simp only [go_sem, ↓reduceIte, reduceCtorEq, Nat.reduceEqDiff, Nat.reduceAdd, Nat.reduceMul, Nat.reduceSub, Nat.reduceLT, Nat.reduceLeDiff, Nat.reducePow, Nat.reduceBEq, Nat.reduceBNe, Int.reduceNeg, Int.reduceBEq, Int.reduceBNe, Int.reduceAdd, Int.reduceSub, Int.reduceMul, Int.reduceLT, Int.reduceLE, Int.reduceToNat, Int.reduceEq, Int.reduceNe, List.take_length, take_map_len, runesOf_eq, runeBytes_map, an_place_Resolve, nf_place_Resolve, fp_place_Resolve, ty3, ty9, ty23, ty25, ty27, ty28, ty29, ty31, ty58, diptychlaw4_Cell.pv_eq, place_Spot.pv_eq, api_Attr.pv_eq, api_Node.pv_eq, diptychref4_Spot.pv_eq, pvL, List.map_nil, rvsRes, rvRes, cellRes, tupOf, pur2, List.map_cons, List.map_append, List.head?_cons]
    (repeat (first | exact Wk.refl _ | exact WkL.refl _ | exact Wk.nil _ | refine Wk.agg _ _ ?_ | refine Wk.tup _ _ ?_ | refine WkL.cons _ _ _ _ ?_ ?_ | exact WkL.nil))
  · rw [if_neg h1] at hh
    replace h1 := Bool.eq_false_iff.mpr h1
    by_cases h2 : (decide (pos_2 < (0 : Int))) = true
    · rw [if_pos h2] at hh
      refine awp_first fun K kk hK => ?_
      simp only [go_sem, ↓reduceIte, reduceCtorEq, Nat.reduceEqDiff, Nat.reduceAdd, Nat.reduceMul, Nat.reduceSub, Nat.reduceLT, Nat.reduceLeDiff, Nat.reducePow, Nat.reduceBEq, Nat.reduceBNe, Int.reduceNeg, Int.reduceBEq, Int.reduceBNe, Int.reduceAdd, Int.reduceSub, Int.reduceMul, Int.reduceLT, Int.reduceLE, Int.reduceToNat, Int.reduceEq, Int.reduceNe, List.take_length, take_map_len, runesOf_eq, runeBytes_map, an_place_Resolve, nf_place_Resolve, fp_place_Resolve, ty3, ty9, ty23, ty25, ty27, ty28, ty29, ty31, ty58, diptychlaw4_Cell.pv_eq, place_Spot.pv_eq, api_Attr.pv_eq, api_Node.pv_eq, diptychref4_Spot.pv_eq, pvL, List.map_nil, h1, h1, h2, of_decide_eq_true h2, h2, of_decide_eq_true h2]
      (repeat (refine And.intro ?_ ?_; focus (first | assumption | (try simp only [List.length_append, List.length_cons, List.length_nil] at *; omega))))
      refine hK _ _ fun nx => ?_; clear hK K; try clear kk
      refine awp_true rfl ?_
      refine awp_first fun K kk hK => ?_
      simp only [go_sem, ↓reduceIte, reduceCtorEq, Nat.reduceEqDiff, Nat.reduceAdd, Nat.reduceMul, Nat.reduceSub, Nat.reduceLT, Nat.reduceLeDiff, Nat.reducePow, Nat.reduceBEq, Nat.reduceBNe, Int.reduceNeg, Int.reduceBEq, Int.reduceBNe, Int.reduceAdd, Int.reduceSub, Int.reduceMul, Int.reduceLT, Int.reduceLE, Int.reduceToNat, Int.reduceEq, Int.reduceNe, List.take_length, take_map_len, runesOf_eq, runeBytes_map, an_place_Resolve, nf_place_Resolve, fp_place_Resolve, ty3, ty9, ty23, ty25, ty27, ty28, ty29, ty31, ty58, diptychlaw4_Cell.pv_eq, place_Spot.pv_eq, api_Attr.pv_eq, api_Node.pv_eq, diptychref4_Spot.pv_eq, pvL, List.map_nil]
      refine hK _ _ fun nx => ?_; clear hK K; try clear kk
      refine awp_ret ?_; (repeat (with_reducible first | refine then_n ?_ | refine then_r ?_ | refine then_e ?_ | refine block_n ?_ | refine block_r ?_ | refine exit_here ?_ | refine exit_on rfl ?_ | refine scope_n ?_ | refine scope_r ?_ | refine scope_e ?_ | refine cut_awp ?_))
      obtain hR := Option.some.inj hh
      subst hR
      refine ret_pure2 ?_ (by rfl)
      simp only [go_sem, ↓reduceIte, reduceCtorEq, Nat.reduceEqDiff, Nat.reduceAdd, Nat.reduceMul, Nat.reduceSub, Nat.reduceLT, Nat.reduceLeDiff, Nat.reducePow, Nat.reduceBEq, Nat.reduceBNe, Int.reduceNeg, Int.reduceBEq, Int.reduceBNe, Int.reduceAdd, Int.reduceSub, Int.reduceMul, Int.reduceLT, Int.reduceLE, Int.reduceToNat, Int.reduceEq, Int.reduceNe, List.take_length, take_map_len, runesOf_eq, runeBytes_map, an_place_Resolve, nf_place_Resolve, fp_place_Resolve, ty3, ty9, ty23, ty25, ty27, ty28, ty29, ty31, ty58, diptychlaw4_Cell.pv_eq, place_Spot.pv_eq, api_Attr.pv_eq, api_Node.pv_eq, diptychref4_Spot.pv_eq, pvL, List.map_nil, rvsRes, rvRes, cellRes, tupOf, pur2, List.map_cons, List.map_append, List.head?_cons]
      (repeat (first | exact Wk.refl _ | exact WkL.refl _ | exact Wk.nil _ | refine Wk.agg _ _ ?_ | refine Wk.tup _ _ ?_ | refine WkL.cons _ _ _ _ ?_ ?_ | exact WkL.nil))
    · rw [if_neg h2] at hh
      replace h2 := Bool.eq_false_iff.mpr h2
      obtain ⟨total_3, h3, hh⟩ := bind_ex hh
      refine awp_first fun K kk hK => ?_
      simp only [go_sem, ↓reduceIte, reduceCtorEq, Nat.reduceEqDiff, Nat.reduceAdd, Nat.reduceMul, Nat.reduceSub, Nat.reduceLT, Nat.reduceLeDiff, Nat.reducePow, Nat.reduceBEq, Nat.reduceBNe, Int.reduceNeg, Int.reduceBEq, Int.reduceBNe, Int.reduceAdd, Int.reduceSub, Int.reduceMul, Int.reduceLT, Int.reduceLE, Int.reduceToNat, Int.reduceEq, Int.reduceNe, List.take_length, take_map_len, runesOf_eq, runeBytes_map, an_place_Resolve, nf_place_Resolve, fp_place_Resolve, ty3, ty9, ty23, ty25, ty27, ty28, ty29, ty31, ty58, diptychlaw4_Cell.pv_eq, place_Spot.pv_eq, api_Attr.pv_eq, api_Node.pv_eq, diptychref4_Spot.pv_eq, pvL, List.map_nil, h1, h1, h2, of_decide_eq_false h2, h2, of_decide_eq_false h2]
      (repeat (refine And.intro ?_ ?_; focus (first | assumption | (try simp only [List.length_append, List.length_cons, List.length_nil] at *; omega))))
      refine step_call2 (node_Total_ok _ _ h3) (by try simp only [go_sem, ↓reduceIte, reduceCtorEq, Nat.reduceEqDiff, Nat.reduceAdd, Nat.reduceMul, Nat.reduceSub, Nat.reduceLT, Nat.reduceLeDiff, Nat.reducePow, Nat.reduceBEq, Nat.reduceBNe, Int.reduceNeg, Int.reduceBEq, Int.reduceBNe, Int.reduceAdd, Int.reduceSub, Int.reduceMul, Int.reduceLT, Int.reduceLE, Int.reduceToNat, Int.reduceEq, Int.reduceNe, List.take_length, take_map_len, runesOf_eq, runeBytes_map, an_place_Resolve, nf_place_Resolve, fp_place_Resolve, ty3, ty9, ty23, ty25, ty27, ty28, ty29, ty31, ty58, diptychlaw4_Cell.pv_eq, place_Spot.pv_eq, api_Attr.pv_eq, api_Node.pv_eq, diptychref4_Spot.pv_eq, pvL, List.map_nil, h1, h1, h2, of_decide_eq_false h2, h2, of_decide_eq_false h2]; (repeat (first | exact WkL.refl _ | exact Wk.refl _ | exact Wk.nil _ | refine WkL.cons _ _ _ _ ?_ ?_ | exact WkL.nil | refine Wk.agg _ _ ?_ | refine Wk.tup _ _ ?_))) (by rfl) (by rfl) ?_
      simp only [go_sem, ↓reduceIte, reduceCtorEq, Nat.reduceEqDiff, Nat.reduceAdd, Nat.reduceMul, Nat.reduceSub, Nat.reduceLT, Nat.reduceLeDiff, Nat.reducePow, Nat.reduceBEq, Nat.reduceBNe, Int.reduceNeg, Int.reduceBEq, Int.reduceBNe, Int.reduceAdd, Int.reduceSub, Int.reduceMul, Int.reduceLT, Int.reduceLE, Int.reduceToNat, Int.reduceEq, Int.reduceNe, List.take_length, take_map_len, runesOf_eq, runeBytes_map, an_place_Resolve, nf_place_Resolve, fp_place_Resolve, ty3, ty9, ty23, ty25, ty27, ty28, ty29, ty31, ty58, diptychlaw4_Cell.pv_eq, place_Spot.pv_eq, api_Attr.pv_eq, api_Node.pv_eq, diptychref4_Spot.pv_eq, pvL, List.map_nil, h1, h1, h2, of_decide_eq_false h2, h2, of_decide_eq_false h2]
      (repeat (refine And.intro ?_ ?_; focus (first | assumption | (try simp only [List.length_append, List.length_cons, List.length_nil] at *; omega))))
      refine hK _ _ fun nx => ?_; clear hK K; try clear kk
      by_cases h4 : (decide (pos_2 > total_3)) = true
      · rw [if_pos h4] at hh
        refine awp_true (by first | exact congrArg PV.bool h4 | rfl) ?_
        refine awp_first fun K kk hK => ?_
        simp only [go_sem, ↓reduceIte, reduceCtorEq, Nat.reduceEqDiff, Nat.reduceAdd, Nat.reduceMul, Nat.reduceSub, Nat.reduceLT, Nat.reduceLeDiff, Nat.reducePow, Nat.reduceBEq, Nat.reduceBNe, Int.reduceNeg, Int.reduceBEq, Int.reduceBNe, Int.reduceAdd, Int.reduceSub, Int.reduceMul, Int.reduceLT, Int.reduceLE, Int.reduceToNat, Int.reduceEq, Int.reduceNe, List.take_length, take_map_len, runesOf_eq, runeBytes_map, an_place_Resolve, nf_place_Resolve, fp_place_Resolve, ty3, ty9, ty23, ty25, ty27, ty28, ty29, ty31, ty58, diptychlaw4_Cell.pv_eq, place_Spot.pv_eq, api_Attr.pv_eq, api_Node.pv_eq, diptychref4_Spot.pv_eq, pvL, List.map_nil]
        refine hK _ _ fun nx => ?_; clear hK K; try clear kk
        refine awp_ret ?_; (repeat (with_reducible first | refine then_n ?_ | refine then_r ?_ | refine then_e ?_ | refine block_n ?_ | refine block_r ?_ | refine exit_here ?_ | refine exit_on rfl ?_ | refine scope_n ?_ | refine scope_r ?_ | refine scope_e ?_ | refine cut_awp ?_))
        obtain hR := Option.some.inj hh
        subst hR
        refine ret_pure2 ?_ (by rfl)
        simp only [go_sem, ↓reduceIte, reduceCtorEq, Nat.reduceEqDiff, Nat.reduceAdd, Nat.reduceMul, Nat.reduceSub, Nat.reduceLT, Nat.reduceLeDiff, Nat.reducePow, Nat.reduceBEq, Nat.reduceBNe, Int.reduceNeg, Int.reduceBEq, Int.reduceBNe, Int.reduceAdd, Int.reduceSub, Int.reduceMul, Int.reduceLT, Int.reduceLE, Int.reduceToNat, Int.reduceEq, Int.reduceNe, List.take_length, take_map_len, runesOf_eq, runeBytes_map, an_place_Resolve, nf_place_Resolve, fp_place_Resolve, ty3, ty9, ty23, ty25, ty27, ty28, ty29, ty31, ty58, diptychlaw4_Cell.pv_eq, place_Spot.pv_eq, api_Attr.pv_eq, api_Node.pv_eq, diptychref4_Spot.pv_eq, pvL, List.map_nil, rvsRes, rvRes, cellRes, tupOf, pur2, List.map_cons, List.map_append, List.head?_cons]
        (repeat (first | exact Wk.refl _ | exact WkL.refl _ | exact Wk.nil _ | refine Wk.agg _ _ ?_ | refine Wk.tup _ _ ?_ | refine WkL.cons _ _ _ _ ?_ ?_ | exact WkL.nil))
      · rw [if_neg h4] at hh
        replace h4 := Bool.eq_false_iff.mpr h4
        refine awp_false (by first | exact congrArg PV.bool h4 | rfl) ?_
        refine awp_skip ?_; (repeat (with_reducible first | refine then_n ?_ | refine then_r ?_ | refine then_e ?_ | refine block_n ?_ | refine block_r ?_ | refine exit_here ?_ | refine exit_on rfl ?_ | refine scope_n ?_ | refine scope_r ?_ | refine scope_e ?_ | refine cut_awp ?_))
        refine awp_first fun K kk hK => ?_
        simp only [go_sem, ↓reduceIte, reduceCtorEq, Nat.reduceEqDiff, Nat.reduceAdd, Nat.reduceMul, Nat.reduceSub, Nat.reduceLT, Nat.reduceLeDiff, Nat.reducePow, Nat.reduceBEq, Nat.reduceBNe, Int.reduceNeg, Int.reduceBEq, Int.reduceBNe, Int.reduceAdd, Int.reduceSub, Int.reduceMul, Int.reduceLT, Int.reduceLE, Int.reduceToNat, Int.reduceEq, Int.reduceNe, List.take_length, take_map_len, runesOf_eq, runeBytes_map, an_place_Resolve, nf_place_Resolve, fp_place_Resolve, ty3, ty9, ty23, ty25, ty27, ty28, ty29, ty31, ty58, diptychlaw4_Cell.pv_eq, place_Spot.pv_eq, api_Attr.pv_eq, api_Node.pv_eq, diptychref4_Spot.pv_eq, pvL, List.map_nil]
        refine hK _ _ fun nx => ?_; clear hK K; try clear kk
        refine awp_seq ?_
        refine awp_label ?_; (repeat (with_reducible first | refine then_n ?_ | refine then_r ?_ | refine then_e ?_ | refine block_n ?_ | refine block_r ?_ | refine exit_here ?_ | refine exit_on rfl ?_ | refine scope_n ?_ | refine scope_r ?_ | refine scope_e ?_ | refine cut_awp ?_))
        obtain ⟨e0, f0, hh⟩ := bind_ex hh
        refine awp_fragE (CutTo (fun s => False))
          (fun i s => False)
          (fun s => ∃ res_43, res_43 = e0 ∧ bodyR Try.prog [.cell 4 25, .tmp 5] (.tup [.agg [.list 1 (res_43.1.Path.map (PV.int .i64)), .int .i64 res_43.1.Index, .int .i64 res_43.1.Offset], .int .i64 res_43.2]) [] .ret s) ?_ ?_ ?_ ?_
        · refine awp_block ?_
          refine awp_loopJ fun I hI => ?_
          obtain ⟨k, f0⟩ := lim_some f0
          have key : ∀ (k : Nat) (pos_23 : Int) (n_22 : api_Node) (v_24 : (List Int)), place_Resolve_l0 k pos_23 n_22 v_24 = some e0 → ∀ (nx : Nat) (g2 : Nat) (g4 : Nat) (g6 : Nat) (g342 : Nat), I ⟨[(1, .int .i64 pos_23), (2, .box 2 g2 0), (4, .box 4 g4 0), (6, .box 6 g6 0)], [(2, g2, .var [.str n_22.Kind, .str n_22.Text, .list 1 (n_22.Marks.map PV.str), .list 2 (n_22.Attrs.map api_Attr.pv), .list 5 (n_22.Kids.map api_Node.pv)]), (4, g4, .var [.list 1 ([].map (PV.int .i64)), .int .i64 (0 : Int), .int .i64 (0 : Int)]), (6, g6, .var [.row 342 g342 v_24.length, .int .i64 (0 : Int), .int .i64 (0 : Int)]), (342, g342, .row false 1 (v_24.map (PV.int .i64)))], nx⟩ := by
            intro k
            induction k with
            | zero => intro pos_23 n_22 v_24 hh; rw [place_Resolve_l0] at hh; cases hh
            | succ k ih =>
              intro pos_23 n_22 v_24 hh nx g2 g4 g6 g342
              rw [place_Resolve_l0] at hh
              refine hI _ ?_
              refine awp_block ?_
              refine awp_seq ?_
              refine awp_first fun K kk hK => ?_
              simp only [go_sem, ↓reduceIte, reduceCtorEq, Nat.reduceEqDiff, Nat.reduceAdd, Nat.reduceMul, Nat.reduceSub, Nat.reduceLT, Nat.reduceLeDiff, Nat.reducePow, Nat.reduceBEq, Nat.reduceBNe, Int.reduceNeg, Int.reduceBEq, Int.reduceBNe, Int.reduceAdd, Int.reduceSub, Int.reduceMul, Int.reduceLT, Int.reduceLE, Int.reduceToNat, Int.reduceEq, Int.reduceNe, List.take_length, take_map_len, runesOf_eq, runeBytes_map, an_place_Resolve, nf_place_Resolve, fp_place_Resolve, ty3, ty9, ty23, ty25, ty27, ty28, ty29, ty31, ty58, diptychlaw4_Cell.pv_eq, place_Spot.pv_eq, api_Attr.pv_eq, api_Node.pv_eq, diptychref4_Spot.pv_eq, pvL, List.map_nil]
              refine hK _ _ fun nx => ?_; clear hK K; try clear kk
              obtain ⟨e2, f2, hh⟩ := bind_ex hh
              obtain ⟨hlen2, f2⟩ := chk_some f2
              refine awp_fragE (CutTo (fun s => .inr (.inr ()) = e2 ∧ ∃ (pos_40 : Int) (v_41 : Int) (v_42 : Bool) (nx : Nat) (g2 : Nat) (g4 : Nat) (g6 : Nat) (g342 : Nat), s = ⟨[(1, .int .i64 pos_40), (2, .box 2 g2 0), (4, .box 4 g4 0), (6, .box 6 g6 0), (26, .list 5 (n_22.Kids.map api_Node.pv)), (27, .int .i64 (n_22.Kids.length : Int)), (28, .int .i64 v_41), (29, .bool v_42)], [(2, g2, .var [.str n_22.Kind, .str n_22.Text, .list 1 (n_22.Marks.map PV.str), .list 2 (n_22.Attrs.map api_Attr.pv), .list 5 (n_22.Kids.map api_Node.pv)]), (4, g4, .var [.list 1 ([].map (PV.int .i64)), .int .i64 (0 : Int), .int .i64 (0 : Int)]), (6, g6, .var [.row 342 g342 v_24.length, .int .i64 (0 : Int), .int .i64 (0 : Int)]), (342, g342, .row false 1 (v_24.map (PV.int .i64)))], nx⟩))
                (fun i s => (i = 1 ∧ ∃ pos_37, ∃ n_38, ∃ v_39, .inr (.inl (pos_37, n_38, v_39)) = e2 ∧ ∃ (nx : Nat) (g2 : Nat) (g4 : Nat) (g6 : Nat) (g342 : Nat), s = ⟨[(1, .int .i64 pos_37), (2, .box 2 g2 0), (4, .box 4 g4 0), (6, .box 6 g6 0)], [(2, g2, .var [.str n_38.Kind, .str n_38.Text, .list 1 (n_38.Marks.map PV.str), .list 2 (n_38.Attrs.map api_Attr.pv), .list 5 (n_38.Kids.map api_Node.pv)]), (4, g4, .var [.list 1 ([].map (PV.int .i64)), .int .i64 (0 : Int), .int .i64 (0 : Int)]), (6, g6, .var [.row 342 g342 v_39.length, .int .i64 (0 : Int), .int .i64 (0 : Int)]), (342, g342, .row false 1 (v_39.map (PV.int .i64)))], nx⟩))
                (fun s => ∃ res_36, .inl res_36 = e2 ∧ bodyR Try.prog [.cell 4 25, .tmp 5] (.tup [.agg [.list 1 (res_36.1.Path.map (PV.int .i64)), .int .i64 res_36.1.Index, .int .i64 res_36.1.Offset], .int .i64 res_36.2]) [] .ret s) ?_ ?_ ?_ ?_
              · refine awp_block ?_
                refine awp_loopJ fun I hI => ?_
                have key : ∀ (suf pre : List api_Node) (v_29 : Int) (pos_28 : Int), n_22.Kids = pre ++ suf → v_29 = (pre.length : Int) → place_Resolve_l2 v_24 suf v_29 pos_28 = some e2 → ∀ (nx : Nat) (g2 : Nat) (g4 : Nat) (g6 : Nat) (g342 : Nat), I ⟨[(1, .int .i64 pos_28), (2, .box 2 g2 0), (4, .box 4 g4 0), (6, .box 6 g6 0), (26, .list 5 (n_22.Kids.map api_Node.pv)), (27, .int .i64 (n_22.Kids.length : Int)), (28, .int .i64 v_29)], [(2, g2, .var [.str n_22.Kind, .str n_22.Text, .list 1 (n_22.Marks.map PV.str), .list 2 (n_22.Attrs.map api_Attr.pv), .list 5 (n_22.Kids.map api_Node.pv)]), (4, g4, .var [.list 1 ([].map (PV.int .i64)), .int .i64 (0 : Int), .int .i64 (0 : Int)]), (6, g6, .var [.row 342 g342 v_24.length, .int .i64 (0 : Int), .int .i64 (0 : Int)]), (342, g342, .row false 1 (v_24.map (PV.int .i64)))], nx⟩ := by
                  intro suf
                  induction suf with
                  | nil =>
                    intro pre v_29 pos_28 hsplit hidx hh nx g2 g4 g6 g342
                    rw [place_Resolve_l2] at hh
                    refine hI _ ?_
                    have h39 := walk_nil hsplit hidx
                    refine awp_first fun K kk hK => ?_
                    simp only [go_sem, ↓reduceIte, reduceCtorEq, Nat.reduceEqDiff, Nat.reduceAdd, Nat.reduceMul, Nat.reduceSub, Nat.reduceLT, Nat.reduceLeDiff, Nat.reducePow, Nat.reduceBEq, Nat.reduceBNe, Int.reduceNeg, Int.reduceBEq, Int.reduceBNe, Int.reduceAdd, Int.reduceSub, Int.reduceMul, Int.reduceLT, Int.reduceLE, Int.reduceToNat, Int.reduceEq, Int.reduceNe, List.take_length, take_map_len, runesOf_eq, runeBytes_map, an_place_Resolve, nf_place_Resolve, fp_place_Resolve, ty3, ty9, ty23, ty25, ty27, ty28, ty29, ty31, ty58, diptychlaw4_Cell.pv_eq, place_Spot.pv_eq, api_Attr.pv_eq, api_Node.pv_eq, diptychref4_Spot.pv_eq, pvL, List.map_nil]
                    refine hK _ _ fun nx => ?_; clear hK K; try clear kk
                    refine awp_seq ?_
                    refine awp_false (by first | exact congrArg PV.bool h39 | rfl) ?_
                    refine awp_exit ?_; (repeat (with_reducible first | refine then_n ?_ | refine then_r ?_ | refine then_e ?_ | refine block_n ?_ | refine block_r ?_ | refine exit_here ?_ | refine exit_on rfl ?_ | refine scope_n ?_ | refine scope_r ?_ | refine scope_e ?_ | refine cut_awp ?_))
                    refine fragN ?_
                    refine cut_id ?_
                    refine ⟨(Option.some.inj hh), ?_⟩
                    first | exact ⟨_, _, _, _, _, _, _, _, rfl⟩ | (simp only [diptychlaw4_Cell.pv_eq, place_Spot.pv_eq, api_Attr.pv_eq, api_Node.pv_eq, diptychref4_Spot.pv_eq, pvL, List.map_cons, List.map_nil, List.map_append, rune1]; exact ⟨_, _, _, _, _, _, _, _, rfl⟩)
                  | cons y_33 suf ih =>
                    intro pre v_29 pos_28 hsplit hidx hh nx g2 g4 g6 g342
                    rw [place_Resolve_l2] at hh
                    refine hI _ ?_
                    obtain ⟨hl2a, hl2b, hl2d, hl2w, h39⟩ := walk_cons (f := api_Node.pv) hsplit hidx hlen2
                    refine awp_first fun K kk hK => ?_
                    simp only [go_sem, ↓reduceIte, reduceCtorEq, Nat.reduceEqDiff, Nat.reduceAdd, Nat.reduceMul, Nat.reduceSub, Nat.reduceLT, Nat.reduceLeDiff, Nat.reducePow, Nat.reduceBEq, Nat.reduceBNe, Int.reduceNeg, Int.reduceBEq, Int.reduceBNe, Int.reduceAdd, Int.reduceSub, Int.reduceMul, Int.reduceLT, Int.reduceLE, Int.reduceToNat, Int.reduceEq, Int.reduceNe, List.take_length, take_map_len, runesOf_eq, runeBytes_map, an_place_Resolve, nf_place_Resolve, fp_place_Resolve, ty3, ty9, ty23, ty25, ty27, ty28, ty29, ty31, ty58, diptychlaw4_Cell.pv_eq, place_Spot.pv_eq, api_Attr.pv_eq, api_Node.pv_eq, diptychref4_Spot.pv_eq, pvL, List.map_nil]
                    refine hK _ _ fun nx => ?_; clear hK K; try clear kk
                    refine awp_seq ?_
                    refine awp_true (by first | exact congrArg PV.bool h39 | rfl) ?_
                    refine awp_skip ?_; (repeat (with_reducible first | refine then_n ?_ | refine then_r ?_ | refine then_e ?_ | refine block_n ?_ | refine block_r ?_ | refine exit_here ?_ | refine exit_on rfl ?_ | refine scope_n ?_ | refine scope_r ?_ | refine scope_e ?_ | refine cut_awp ?_))
                    refine awp_seq ?_
                    refine awp_block ?_
                    refine awp_first fun K kk hK => ?_
                    simp only [go_sem, ↓reduceIte, reduceCtorEq, Nat.reduceEqDiff, Nat.reduceAdd, Nat.reduceMul, Nat.reduceSub, Nat.reduceLT, Nat.reduceLeDiff, Nat.reducePow, Nat.reduceBEq, Nat.reduceBNe, Int.reduceNeg, Int.reduceBEq, Int.reduceBNe, Int.reduceAdd, Int.reduceSub, Int.reduceMul, Int.reduceLT, Int.reduceLE, Int.reduceToNat, Int.reduceEq, Int.reduceNe, List.take_length, take_map_len, runesOf_eq, runeBytes_map, an_place_Resolve, nf_place_Resolve, fp_place_Resolve, ty3, ty9, ty23, ty25, ty27, ty28, ty29, ty31, ty58, diptychlaw4_Cell.pv_eq, place_Spot.pv_eq, api_Attr.pv_eq, api_Node.pv_eq, diptychref4_Spot.pv_eq, pvL, List.map_nil, hl2a, hl2b, hl2d, hl2w]
                    refine hK _ _ fun nx => ?_; clear hK K; try clear kk
                    obtain ⟨size_34, h40, hh⟩ := bind_ex hh
                    refine awp_first fun K kk hK => ?_
                    simp only [go_sem, ↓reduceIte, reduceCtorEq, Nat.reduceEqDiff, Nat.reduceAdd, Nat.reduceMul, Nat.reduceSub, Nat.reduceLT, Nat.reduceLeDiff, Nat.reducePow, Nat.reduceBEq, Nat.reduceBNe, Int.reduceNeg, Int.reduceBEq, Int.reduceBNe, Int.reduceAdd, Int.reduceSub, Int.reduceMul, Int.reduceLT, Int.reduceLE, Int.reduceToNat, Int.reduceEq, Int.reduceNe, List.take_length, take_map_len, runesOf_eq, runeBytes_map, an_place_Resolve, nf_place_Resolve, fp_place_Resolve, ty3, ty9, ty23, ty25, ty27, ty28, ty29, ty31, ty58, diptychlaw4_Cell.pv_eq, place_Spot.pv_eq, api_Attr.pv_eq, api_Node.pv_eq, diptychref4_Spot.pv_eq, pvL, List.map_nil, hl2a, hl2b, hl2d, hl2w]
                    refine step_call2 (node_Size_ok _ _ h40) (by try simp only [go_sem, ↓reduceIte, reduceCtorEq, Nat.reduceEqDiff, Nat.reduceAdd, Nat.reduceMul, Nat.reduceSub, Nat.reduceLT, Nat.reduceLeDiff, Nat.reducePow, Nat.reduceBEq, Nat.reduceBNe, Int.reduceNeg, Int.reduceBEq, Int.reduceBNe, Int.reduceAdd, Int.reduceSub, Int.reduceMul, Int.reduceLT, Int.reduceLE, Int.reduceToNat, Int.reduceEq, Int.reduceNe, List.take_length, take_map_len, runesOf_eq, runeBytes_map, an_place_Resolve, nf_place_Resolve, fp_place_Resolve, ty3, ty9, ty23, ty25, ty27, ty28, ty29, ty31, ty58, diptychlaw4_Cell.pv_eq, place_Spot.pv_eq, api_Attr.pv_eq, api_Node.pv_eq, diptychref4_Spot.pv_eq, pvL, List.map_nil, hl2a, hl2b, hl2d, hl2w]; (repeat (first | exact WkL.refl _ | exact Wk.refl _ | exact Wk.nil _ | refine WkL.cons _ _ _ _ ?_ ?_ | exact WkL.nil | refine Wk.agg _ _ ?_ | refine Wk.tup _ _ ?_))) (by rfl) (by rfl) ?_
                    simp only [go_sem, ↓reduceIte, reduceCtorEq, Nat.reduceEqDiff, Nat.reduceAdd, Nat.reduceMul, Nat.reduceSub, Nat.reduceLT, Nat.reduceLeDiff, Nat.reducePow, Nat.reduceBEq, Nat.reduceBNe, Int.reduceNeg, Int.reduceBEq, Int.reduceBNe, Int.reduceAdd, Int.reduceSub, Int.reduceMul, Int.reduceLT, Int.reduceLE, Int.reduceToNat, Int.reduceEq, Int.reduceNe, List.take_length, take_map_len, runesOf_eq, runeBytes_map, an_place_Resolve, nf_place_Resolve, fp_place_Resolve, ty3, ty9, ty23, ty25, ty27, ty28, ty29, ty31, ty58, diptychlaw4_Cell.pv_eq, place_Spot.pv_eq, api_Attr.pv_eq, api_Node.pv_eq, diptychref4_Spot.pv_eq, pvL, List.map_nil, hl2a, hl2b, hl2d, hl2w]
                    refine hK _ _ fun nx => ?_; clear hK K; try clear kk
                    refine awp_block ?_
                    refine awp_first fun K kk hK => ?_
                    simp only [go_sem, ↓reduceIte, reduceCtorEq, Nat.reduceEqDiff, Nat.reduceAdd, Nat.reduceMul, Nat.reduceSub, Nat.reduceLT, Nat.reduceLeDiff, Nat.reducePow, Nat.reduceBEq, Nat.reduceBNe, Int.reduceNeg, Int.reduceBEq, Int.reduceBNe, Int.reduceAdd, Int.reduceSub, Int.reduceMul, Int.reduceLT, Int.reduceLE, Int.reduceToNat, Int.reduceEq, Int.reduceNe, List.take_length, take_map_len, runesOf_eq, runeBytes_map, an_place_Resolve, nf_place_Resolve, fp_place_Resolve, ty3, ty9, ty23, ty25, ty27, ty28, ty29, ty31, ty58, diptychlaw4_Cell.pv_eq, place_Spot.pv_eq, api_Attr.pv_eq, api_Node.pv_eq, diptychref4_Spot.pv_eq, pvL, List.map_nil, hl2a, hl2b, hl2d, hl2w]
                    refine hK _ _ fun nx => ?_; clear hK K; try clear kk
                    by_cases h41 : (decide (pos_28 ≥ size_34)) = true
                    · rw [if_pos h41] at hh
                      refine awp_true (by first | exact congrArg PV.bool h41 | rfl) ?_
                      refine awp_region fun K kk hK => ?_
                      simp only [go_sem, ↓reduceIte, reduceCtorEq, Nat.reduceEqDiff, Nat.reduceAdd, Nat.reduceMul, Nat.reduceSub, Nat.reduceLT, Nat.reduceLeDiff, Nat.reducePow, Nat.reduceBEq, Nat.reduceBNe, Int.reduceNeg, Int.reduceBEq, Int.reduceBNe, Int.reduceAdd, Int.reduceSub, Int.reduceMul, Int.reduceLT, Int.reduceLE, Int.reduceToNat, Int.reduceEq, Int.reduceNe, List.take_length, take_map_len, runesOf_eq, runeBytes_map, an_place_Resolve, nf_place_Resolve, fp_place_Resolve, ty3, ty9, ty23, ty25, ty27, ty28, ty29, ty31, ty58, diptychlaw4_Cell.pv_eq, place_Spot.pv_eq, api_Attr.pv_eq, api_Node.pv_eq, diptychref4_Spot.pv_eq, pvL, List.map_nil, hl2a, hl2b, hl2d, hl2w]
                      refine hK _ _ fun nx => ?_; clear hK K; try clear kk
                      (repeat (with_reducible first | refine then_n ?_ | refine then_r ?_ | refine then_e ?_ | refine block_n ?_ | refine block_r ?_ | refine exit_here ?_ | refine exit_on rfl ?_ | refine scope_n ?_ | refine scope_r ?_ | refine scope_e ?_ | refine cut_awp ?_))
                      refine awp_region fun K kk hK => ?_
                      simp only [go_sem, ↓reduceIte, reduceCtorEq, Nat.reduceEqDiff, Nat.reduceAdd, Nat.reduceMul, Nat.reduceSub, Nat.reduceLT, Nat.reduceLeDiff, Nat.reducePow, Nat.reduceBEq, Nat.reduceBNe, Int.reduceNeg, Int.reduceBEq, Int.reduceBNe, Int.reduceAdd, Int.reduceSub, Int.reduceMul, Int.reduceLT, Int.reduceLE, Int.reduceToNat, Int.reduceEq, Int.reduceNe, List.take_length, take_map_len, runesOf_eq, runeBytes_map, an_place_Resolve, nf_place_Resolve, fp_place_Resolve, ty3, ty9, ty23, ty25, ty27, ty28, ty29, ty31, ty58, diptychlaw4_Cell.pv_eq, place_Spot.pv_eq, api_Attr.pv_eq, api_Node.pv_eq, diptychref4_Spot.pv_eq, pvL, List.map_nil, hl2a, hl2b, hl2d, hl2w]
                      refine hK _ _ fun nx => ?_; clear hK K; try clear kk
                      (repeat (with_reducible first | refine then_n ?_ | refine then_r ?_ | refine then_e ?_ | refine block_n ?_ | refine block_r ?_ | refine exit_here ?_ | refine exit_on rfl ?_ | refine scope_n ?_ | refine scope_r ?_ | refine scope_e ?_ | refine cut_awp ?_))
                      have ih' := ih (pre ++ [y_33]) (v_29 + 1) _ (by rw [hsplit]; simp) (by simp [hidx]) hh nx
                      refine cut_id ?_
                      first | exact ih' _ _ _ _ | (simp only [diptychlaw4_Cell.pv_eq, place_Spot.pv_eq, api_Attr.pv_eq, api_Node.pv_eq, diptychref4_Spot.pv_eq, pvL, List.map_cons, List.map_nil, List.map_append, rune1] at ih' ⊢; exact ih' _ _ _ _)
                    · rw [if_neg h41] at hh
                      replace h41 := Bool.eq_false_iff.mpr h41
                      refine awp_false (by first | exact congrArg PV.bool h41 | rfl) ?_
                      refine awp_first fun K kk hK => ?_
                      simp only [go_sem, ↓reduceIte, reduceCtorEq, Nat.reduceEqDiff, Nat.reduceAdd, Nat.reduceMul, Nat.reduceSub, Nat.reduceLT, Nat.reduceLeDiff, Nat.reducePow, Nat.reduceBEq, Nat.reduceBNe, Int.reduceNeg, Int.reduceBEq, Int.reduceBNe, Int.reduceAdd, Int.reduceSub, Int.reduceMul, Int.reduceLT, Int.reduceLE, Int.reduceToNat, Int.reduceEq, Int.reduceNe, List.take_length, take_map_len, runesOf_eq, runeBytes_map, an_place_Resolve, nf_place_Resolve, fp_place_Resolve, ty3, ty9, ty23, ty25, ty27, ty28, ty29, ty31, ty58, diptychlaw4_Cell.pv_eq, place_Spot.pv_eq, api_Attr.pv_eq, api_Node.pv_eq, diptychref4_Spot.pv_eq, pvL, List.map_nil, hl2a, hl2b, hl2d, hl2w]
                      refine hK _ _ fun nx => ?_; clear hK K; try clear kk
                      by_cases h42 : (y_33.Kind == ([116, 101, 120, 116] : Str)) = true
                      · rw [if_pos h42] at hh
                        refine awp_true (by first | exact congrArg PV.bool h42 | rfl) ?_
                        refine awp_first fun K kk hK => ?_
                        simp only [go_sem, ↓reduceIte, reduceCtorEq, Nat.reduceEqDiff, Nat.reduceAdd, Nat.reduceMul, Nat.reduceSub, Nat.reduceLT, Nat.reduceLeDiff, Nat.reducePow, Nat.reduceBEq, Nat.reduceBNe, Int.reduceNeg, Int.reduceBEq, Int.reduceBNe, Int.reduceAdd, Int.reduceSub, Int.reduceMul, Int.reduceLT, Int.reduceLE, Int.reduceToNat, Int.reduceEq, Int.reduceNe, List.take_length, take_map_len, runesOf_eq, runeBytes_map, an_place_Resolve, nf_place_Resolve, fp_place_Resolve, ty3, ty9, ty23, ty25, ty27, ty28, ty29, ty31, ty58, diptychlaw4_Cell.pv_eq, place_Spot.pv_eq, api_Attr.pv_eq, api_Node.pv_eq, diptychref4_Spot.pv_eq, pvL, List.map_nil, hl2a, hl2b, hl2d, hl2w]
                        refine hK _ _ fun nx => ?_; clear hK K; try clear kk
                        refine awp_first fun K kk hK => ?_
                        simp only [go_sem, ↓reduceIte, reduceCtorEq, Nat.reduceEqDiff, Nat.reduceAdd, Nat.reduceMul, Nat.reduceSub, Nat.reduceLT, Nat.reduceLeDiff, Nat.reducePow, Nat.reduceBEq, Nat.reduceBNe, Int.reduceNeg, Int.reduceBEq, Int.reduceBNe, Int.reduceAdd, Int.reduceSub, Int.reduceMul, Int.reduceLT, Int.reduceLE, Int.reduceToNat, Int.reduceEq, Int.reduceNe, List.take_length, take_map_len, runesOf_eq, runeBytes_map, an_place_Resolve, nf_place_Resolve, fp_place_Resolve, ty3, ty9, ty23, ty25, ty27, ty28, ty29, ty31, ty58, diptychlaw4_Cell.pv_eq, place_Spot.pv_eq, api_Attr.pv_eq, api_Node.pv_eq, diptychref4_Spot.pv_eq, pvL, List.map_nil, hl2a, hl2b, hl2d, hl2w]
                        refine hK _ _ fun nx => ?_; clear hK K; try clear kk
                        refine awp_ret ?_; (repeat (with_reducible first | refine then_n ?_ | refine then_r ?_ | refine then_e ?_ | refine block_n ?_ | refine block_r ?_ | refine exit_here ?_ | refine exit_on rfl ?_ | refine scope_n ?_ | refine scope_r ?_ | refine scope_e ?_ | refine cut_awp ?_))
                        refine fragR ⟨_, (Option.some.inj hh), ?_⟩
                        refine ret_pure2 ?_ (by rfl)
                        simp only [go_sem, ↓reduceIte, reduceCtorEq, Nat.reduceEqDiff, Nat.reduceAdd, Nat.reduceMul, Nat.reduceSub, Nat.reduceLT, Nat.reduceLeDiff, Nat.reducePow, Nat.reduceBEq, Nat.reduceBNe, Int.reduceNeg, Int.reduceBEq, Int.reduceBNe, Int.reduceAdd, Int.reduceSub, Int.reduceMul, Int.reduceLT, Int.reduceLE, Int.reduceToNat, Int.reduceEq, Int.reduceNe, List.take_length, take_map_len, runesOf_eq, runeBytes_map, an_place_Resolve, nf_place_Resolve, fp_place_Resolve, ty3, ty9, ty23, ty25, ty27, ty28, ty29, ty31, ty58, diptychlaw4_Cell.pv_eq, place_Spot.pv_eq, api_Attr.pv_eq, api_Node.pv_eq, diptychref4_Spot.pv_eq, pvL, List.map_nil, rvsRes, rvRes, cellRes, tupOf, pur2, List.map_cons, List.map_append, List.head?_cons]
                        (repeat (first | exact Wk.refl _ | exact WkL.refl _ | exact Wk.nil _ | refine Wk.agg _ _ ?_ | refine Wk.tup _ _ ?_ | refine WkL.cons _ _ _ _ ?_ ?_ | exact WkL.nil))
                      · rw [if_neg h42] at hh
                        replace h42 := Bool.eq_false_iff.mpr h42
                        refine awp_false (by first | exact congrArg PV.bool h42 | rfl) ?_
                        refine awp_first fun K kk hK => ?_
                        simp only [go_sem, ↓reduceIte, reduceCtorEq, Nat.reduceEqDiff, Nat.reduceAdd, Nat.reduceMul, Nat.reduceSub, Nat.reduceLT, Nat.reduceLeDiff, Nat.reducePow, Nat.reduceBEq, Nat.reduceBNe, Int.reduceNeg, Int.reduceBEq, Int.reduceBNe, Int.reduceAdd, Int.reduceSub, Int.reduceMul, Int.reduceLT, Int.reduceLE, Int.reduceToNat, Int.reduceEq, Int.reduceNe, List.take_length, take_map_len, runesOf_eq, runeBytes_map, an_place_Resolve, nf_place_Resolve, fp_place_Resolve, ty3, ty9, ty23, ty25, ty27, ty28, ty29, ty31, ty58, diptychlaw4_Cell.pv_eq, place_Spot.pv_eq, api_Attr.pv_eq, api_Node.pv_eq, diptychref4_Spot.pv_eq, pvL, List.map_nil, hl2a, hl2b, hl2d, hl2w]
                        refine hK _ _ fun nx => ?_; clear hK K; try clear kk
                        by_cases h43 : (pos_28 == (0 : Int)) = true
                        · rw [if_pos h43] at hh
                          refine awp_true (by first | exact congrArg PV.bool h43 | rfl) ?_
                          refine awp_first fun K kk hK => ?_
                          simp only [go_sem, ↓reduceIte, reduceCtorEq, Nat.reduceEqDiff, Nat.reduceAdd, Nat.reduceMul, Nat.reduceSub, Nat.reduceLT, Nat.reduceLeDiff, Nat.reducePow, Nat.reduceBEq, Nat.reduceBNe, Int.reduceNeg, Int.reduceBEq, Int.reduceBNe, Int.reduceAdd, Int.reduceSub, Int.reduceMul, Int.reduceLT, Int.reduceLE, Int.reduceToNat, Int.reduceEq, Int.reduceNe, List.take_length, take_map_len, runesOf_eq, runeBytes_map, an_place_Resolve, nf_place_Resolve, fp_place_Resolve, ty3, ty9, ty23, ty25, ty27, ty28, ty29, ty31, ty58, diptychlaw4_Cell.pv_eq, place_Spot.pv_eq, api_Attr.pv_eq, api_Node.pv_eq, diptychref4_Spot.pv_eq, pvL, List.map_nil, hl2a, hl2b, hl2d, hl2w]
                          refine hK _ _ fun nx => ?_; clear hK K; try clear kk
                          refine awp_first fun K kk hK => ?_
                          simp only [go_sem, ↓reduceIte, reduceCtorEq, Nat.reduceEqDiff, Nat.reduceAdd, Nat.reduceMul, Nat.reduceSub, Nat.reduceLT, Nat.reduceLeDiff, Nat.reducePow, Nat.reduceBEq, Nat.reduceBNe, Int.reduceNeg, Int.reduceBEq, Int.reduceBNe, Int.reduceAdd, Int.reduceSub, Int.reduceMul, Int.reduceLT, Int.reduceLE, Int.reduceToNat, Int.reduceEq, Int.reduceNe, List.take_length, take_map_len, runesOf_eq, runeBytes_map, an_place_Resolve, nf_place_Resolve, fp_place_Resolve, ty3, ty9, ty23, ty25, ty27, ty28, ty29, ty31, ty58, diptychlaw4_Cell.pv_eq, place_Spot.pv_eq, api_Attr.pv_eq, api_Node.pv_eq, diptychref4_Spot.pv_eq, pvL, List.map_nil, hl2a, hl2b, hl2d, hl2w]
                          refine hK _ _ fun nx => ?_; clear hK K; try clear kk
                          refine awp_ret ?_; (repeat (with_reducible first | refine then_n ?_ | refine then_r ?_ | refine then_e ?_ | refine block_n ?_ | refine block_r ?_ | refine exit_here ?_ | refine exit_on rfl ?_ | refine scope_n ?_ | refine scope_r ?_ | refine scope_e ?_ | refine cut_awp ?_))
                          refine fragR ⟨_, (Option.some.inj hh), ?_⟩
                          refine ret_pure2 ?_ (by rfl)
                          simp only [go_sem, ↓reduceIte, reduceCtorEq, Nat.reduceEqDiff, Nat.reduceAdd, Nat.reduceMul, Nat.reduceSub, Nat.reduceLT, Nat.reduceLeDiff, Nat.reducePow, Nat.reduceBEq, Nat.reduceBNe, Int.reduceNeg, Int.reduceBEq, Int.reduceBNe, Int.reduceAdd, Int.reduceSub, Int.reduceMul, Int.reduceLT, Int.reduceLE, Int.reduceToNat, Int.reduceEq, Int.reduceNe, List.take_length, take_map_len, runesOf_eq, runeBytes_map, an_place_Resolve, nf_place_Resolve, fp_place_Resolve, ty3, ty9, ty23, ty25, ty27, ty28, ty29, ty31, ty58, diptychlaw4_Cell.pv_eq, place_Spot.pv_eq, api_Attr.pv_eq, api_Node.pv_eq, diptychref4_Spot.pv_eq, pvL, List.map_nil, rvsRes, rvRes, cellRes, tupOf, pur2, List.map_cons, List.map_append, List.head?_cons]
                          (repeat (first | exact Wk.refl _ | exact WkL.refl _ | exact Wk.nil _ | refine Wk.agg _ _ ?_ | refine Wk.tup _ _ ?_ | refine WkL.cons _ _ _ _ ?_ ?_ | exact WkL.nil))
                        · rw [if_neg h43] at hh
                          replace h43 := Bool.eq_false_iff.mpr h43
                          refine awp_false (by first | exact congrArg PV.bool h43 | rfl) ?_
                          obtain ⟨l_35, h44, hh⟩ := bind_ex hh
                          obtain ⟨h44a, h44c⟩ := app_some h44
                          have h44d := app_map (f := (PV.int .i64)) h44c
                          have h44e := app_len h44c
                          try simp only [List.length_cons, List.length_nil, Nat.zero_add, Nat.reduceAdd] at h44a h44e
                          try simp only [h44e] at h44a
                          try simp only [List.map_cons, List.map_nil, List.nil_append, List.append_nil, List.cons_append, List.singleton_append, rune1, diptychlaw4_Cell.pv_eq, place_Spot.pv_eq, api_Attr.pv_eq, api_Node.pv_eq, diptychref4_Spot.pv_eq, pvL] at h44d
                          refine awp_first fun K kk hK => ?_
                          simp only [go_sem, ↓reduceIte, reduceCtorEq, Nat.reduceEqDiff, Nat.reduceAdd, Nat.reduceMul, Nat.reduceSub, Nat.reduceLT, Nat.reduceLeDiff, Nat.reducePow, Nat.reduceBEq, Nat.reduceBNe, Int.reduceNeg, Int.reduceBEq, Int.reduceBNe, Int.reduceAdd, Int.reduceSub, Int.reduceMul, Int.reduceLT, Int.reduceLE, Int.reduceToNat, Int.reduceEq, Int.reduceNe, List.take_length, take_map_len, runesOf_eq, runeBytes_map, an_place_Resolve, nf_place_Resolve, fp_place_Resolve, ty3, ty9, ty23, ty25, ty27, ty28, ty29, ty31, ty58, diptychlaw4_Cell.pv_eq, place_Spot.pv_eq, api_Attr.pv_eq, api_Node.pv_eq, diptychref4_Spot.pv_eq, pvL, List.map_nil, h44a, h44d, h44e, hl2a, hl2b, hl2d, hl2w]
                          (repeat (refine And.intro ?_ ?_; focus (first | assumption | (try simp only [List.length_append, List.length_cons, List.length_nil] at *; omega))))
                          refine hK _ _ fun nx => ?_; clear hK K; try clear kk
                          refine awp_first fun K kk hK => ?_
                          simp only [go_sem, ↓reduceIte, reduceCtorEq, Nat.reduceEqDiff, Nat.reduceAdd, Nat.reduceMul, Nat.reduceSub, Nat.reduceLT, Nat.reduceLeDiff, Nat.reducePow, Nat.reduceBEq, Nat.reduceBNe, Int.reduceNeg, Int.reduceBEq, Int.reduceBNe, Int.reduceAdd, Int.reduceSub, Int.reduceMul, Int.reduceLT, Int.reduceLE, Int.reduceToNat, Int.reduceEq, Int.reduceNe, List.take_length, take_map_len, runesOf_eq, runeBytes_map, an_place_Resolve, nf_place_Resolve, fp_place_Resolve, ty3, ty9, ty23, ty25, ty27, ty28, ty29, ty31, ty58, diptychlaw4_Cell.pv_eq, place_Spot.pv_eq, api_Attr.pv_eq, api_Node.pv_eq, diptychref4_Spot.pv_eq, pvL, List.map_nil, hl2a, hl2b, hl2d, hl2w]
                          refine hK _ _ fun nx => ?_; clear hK K; try clear kk
                          refine awp_exit ?_; (repeat (with_reducible first | refine then_n ?_ | refine then_r ?_ | refine then_e ?_ | refine block_n ?_ | refine block_r ?_ | refine exit_here ?_ | refine exit_on rfl ?_ | refine scope_n ?_ | refine scope_r ?_ | refine scope_e ?_ | refine cut_awp ?_))
                          refine fragE ⟨rfl, _, _, _, (Option.some.inj hh), ?_⟩
                          first | exact ⟨_, _, _, _, _, rfl⟩ | (simp only [diptychlaw4_Cell.pv_eq, place_Spot.pv_eq, api_Attr.pv_eq, api_Node.pv_eq, diptychref4_Spot.pv_eq, pvL, List.map_cons, List.map_nil, List.map_append, rune1, h44e]; exact ⟨_, _, _, _, _, rfl⟩)
                exact key n_22.Kids [] _ _ rfl rfl f2 _ _ _ _ _
              · rintro s ⟨t, hless, rfl, pos_40, v_41, v_42, nx, g2, g4, g6, g342, rfl⟩
                try dsimp only at hh
                (repeat (with_reducible first | refine then_n ?_ | refine then_r ?_ | refine then_e ?_ | refine block_n ?_ | refine block_r ?_ | refine exit_here ?_ | refine exit_on rfl ?_ | refine scope_n ?_ | refine scope_r ?_ | refine scope_e ?_))
                first | (refine cut_less hless ?_; try refine cut_awp ?_) | refine frag_less hless ?_
                refine awp_first fun K kk hK => ?_
                simp only [go_sem, ↓reduceIte, reduceCtorEq, Nat.reduceEqDiff, Nat.reduceAdd, Nat.reduceMul, Nat.reduceSub, Nat.reduceLT, Nat.reduceLeDiff, Nat.reducePow, Nat.reduceBEq, Nat.reduceBNe, Int.reduceNeg, Int.reduceBEq, Int.reduceBNe, Int.reduceAdd, Int.reduceSub, Int.reduceMul, Int.reduceLT, Int.reduceLE, Int.reduceToNat, Int.reduceEq, Int.reduceNe, List.take_length, take_map_len, runesOf_eq, runeBytes_map, an_place_Resolve, nf_place_Resolve, fp_place_Resolve, ty3, ty9, ty23, ty25, ty27, ty28, ty29, ty31, ty58, diptychlaw4_Cell.pv_eq, place_Spot.pv_eq, api_Attr.pv_eq, api_Node.pv_eq, diptychref4_Spot.pv_eq, pvL, List.map_nil]
                refine hK _ _ fun nx => ?_; clear hK K; try clear kk
                refine awp_first fun K kk hK => ?_
                simp only [go_sem, ↓reduceIte, reduceCtorEq, Nat.reduceEqDiff, Nat.reduceAdd, Nat.reduceMul, Nat.reduceSub, Nat.reduceLT, Nat.reduceLeDiff, Nat.reducePow, Nat.reduceBEq, Nat.reduceBNe, Int.reduceNeg, Int.reduceBEq, Int.reduceBNe, Int.reduceAdd, Int.reduceSub, Int.reduceMul, Int.reduceLT, Int.reduceLE, Int.reduceToNat, Int.reduceEq, Int.reduceNe, List.take_length, take_map_len, runesOf_eq, runeBytes_map, an_place_Resolve, nf_place_Resolve, fp_place_Resolve, ty3, ty9, ty23, ty25, ty27, ty28, ty29, ty31, ty58, diptychlaw4_Cell.pv_eq, place_Spot.pv_eq, api_Attr.pv_eq, api_Node.pv_eq, diptychref4_Spot.pv_eq, pvL, List.map_nil]
                refine hK _ _ fun nx => ?_; clear hK K; try clear kk
                refine awp_ret ?_; (repeat (with_reducible first | refine then_n ?_ | refine then_r ?_ | refine then_e ?_ | refine block_n ?_ | refine block_r ?_ | refine exit_here ?_ | refine exit_on rfl ?_ | refine scope_n ?_ | refine scope_r ?_ | refine scope_e ?_ | refine cut_awp ?_))
                refine fragR ⟨_, (Option.some.inj hh), ?_⟩
                refine ret_pure2 ?_ (by rfl)
                simp only [go_sem, ↓reduceIte, reduceCtorEq, Nat.reduceEqDiff, Nat.reduceAdd, Nat.reduceMul, Nat.reduceSub, Nat.reduceLT, Nat.reduceLeDiff, Nat.reducePow, Nat.reduceBEq, Nat.reduceBNe, Int.reduceNeg, Int.reduceBEq, Int.reduceBNe, Int.reduceAdd, Int.reduceSub, Int.reduceMul, Int.reduceLT, Int.reduceLE, Int.reduceToNat, Int.reduceEq, Int.reduceNe, List.take_length, take_map_len, runesOf_eq, runeBytes_map, an_place_Resolve, nf_place_Resolve, fp_place_Resolve, ty3, ty9, ty23, ty25, ty27, ty28, ty29, ty31, ty58, diptychlaw4_Cell.pv_eq, place_Spot.pv_eq, api_Attr.pv_eq, api_Node.pv_eq, diptychref4_Spot.pv_eq, pvL, List.map_nil, rvsRes, rvRes, cellRes, tupOf, pur2, List.map_cons, List.map_append, List.head?_cons]
                (repeat (first | exact Wk.refl _ | exact WkL.refl _ | exact Wk.nil _ | refine Wk.agg _ _ ?_ | refine Wk.tup _ _ ?_ | refine WkL.cons _ _ _ _ ?_ ?_ | exact WkL.nil))
              · intro i s h
                obtain ⟨rfl, pos_37, n_38, v_39, rfl, nx, g2, g4, g6, g342, rfl⟩ := h
                try dsimp only at hh
                (repeat (with_reducible first | refine then_n ?_ | refine then_r ?_ | refine then_e ?_ | refine block_n ?_ | refine block_r ?_ | refine exit_here ?_ | refine exit_on rfl ?_ | refine scope_n ?_ | refine scope_r ?_ | refine scope_e ?_ | refine cut_awp ?_))
                have ih' := ih _ _ _ hh nx
                refine cut_id ?_
                first | exact ih' _ _ _ _ | (simp only [diptychlaw4_Cell.pv_eq, place_Spot.pv_eq, api_Attr.pv_eq, api_Node.pv_eq, diptychref4_Spot.pv_eq, pvL, List.map_cons, List.map_nil, List.map_append, rune1] at ih' ⊢; exact ih' _ _ _ _)
              · rintro s ⟨res_36, rfl, hb⟩
                try dsimp only at hh
                (repeat (with_reducible first | refine then_n ?_ | refine then_r ?_ | refine then_e ?_ | refine block_n ?_ | refine block_r ?_ | refine exit_here ?_ | refine exit_on rfl ?_ | refine scope_n ?_ | refine scope_r ?_ | refine scope_e ?_ | refine cut_awp ?_))
                exact fragR ⟨_, (Option.some.inj hh), hb⟩
          exact key _ _ _ _ f0 _ _ _ _ _
        · rintro s ⟨_, _, h⟩; exact h.elim
        · intro i s h; exact h.elim
        · rintro s ⟨res_43, rfl, hb⟩
          try dsimp only at hh
          obtain hR := Option.some.inj hh
          subst hR
          (repeat (with_reducible first | refine then_n ?_ | refine then_r ?_ | refine then_e ?_ | refine block_n ?_ | refine block_r ?_ | refine exit_here ?_ | refine exit_on rfl ?_ | refine scope_n ?_ | refine scope_r ?_ | refine scope_e ?_ | refine cut_awp ?_))
          exact hb

end Go.Proofs.Ytacmddgliagpcaa
