/- What the functions answer, the program answers (5). -/
import Derived.Test.YtlgjbmgmoaphjaaDoorAgC
import Derived.Test.YtlgjbmgmoaphjaaDoorAgF
namespace Go.Proofs.YtlgjbmgmoaphjaaDoor
set_option linter.unusedSimpArgs false
set_option linter.unusedVariables false
open Go
set_option maxRecDepth 100000

theorem diptychlaw3_same_ok (a_1 : (List token_Token)) (b_2 : (List diptychref3_Token)) (R : Bool) (hh : diptychlaw3_same a_1 b_2 = some R) : PC Tryd.prog 19 [.list 3 (a_1.map token_Token.pv), .list 3 (b_2.map diptychref3_Token.pv)] (.bool R) := by
  rw [diptychlaw3_same] at hh
  refine start_diptychlaw3_same rfl ?_
  refine awp_first fun K kk hK => ?_
  simp only [go_sem, ↓reduceIte, reduceCtorEq, Nat.reduceEqDiff, Nat.reduceAdd, Nat.reduceMul, Nat.reduceSub, Nat.reduceLT, Nat.reduceLeDiff, Nat.reducePow, Nat.reduceBEq, Nat.reduceBNe, Int.reduceNeg, Int.reduceBEq, Int.reduceBNe, Int.reduceAdd, Int.reduceSub, Int.reduceMul, Int.reduceLT, Int.reduceLE, Int.reduceToNat, Int.reduceEq, Int.reduceNe, List.take_length, take_map_len, runesOf_eq, runeBytes_map, an_diptychlaw3_same, nf_diptychlaw3_same, fp_diptychlaw3_same, ty3, ty5, ty9, ty31, ty34, ty40, ty78, diptychlaw3_Cell.pv_eq, api_Attr.pv_eq, api_Node.pv_eq, token_Token.pv_eq, diptychref3_Token.pv_eq, pvL, List.map_nil]
  refine hK _ _ fun nx => ?_; clear hK K; try clear kk
  refine awp_seq ?_
  refine awp_first fun K kk hK => ?_
  simp only [go_sem, ↓reduceIte, reduceCtorEq, Nat.reduceEqDiff, Nat.reduceAdd, Nat.reduceMul, Nat.reduceSub, Nat.reduceLT, Nat.reduceLeDiff, Nat.reducePow, Nat.reduceBEq, Nat.reduceBNe, Int.reduceNeg, Int.reduceBEq, Int.reduceBNe, Int.reduceAdd, Int.reduceSub, Int.reduceMul, Int.reduceLT, Int.reduceLE, Int.reduceToNat, Int.reduceEq, Int.reduceNe, List.take_length, take_map_len, runesOf_eq, runeBytes_map, an_diptychlaw3_same, nf_diptychlaw3_same, fp_diptychlaw3_same, ty3, ty5, ty9, ty31, ty34, ty40, ty78, diptychlaw3_Cell.pv_eq, api_Attr.pv_eq, api_Node.pv_eq, token_Token.pv_eq, diptychref3_Token.pv_eq, pvL, List.map_nil]
  refine hK _ _ fun nx => ?_; clear hK K; try clear kk
  by_cases h1 : ((a_1.length : Int) != (b_2.length : Int)) = true
  · rw [if_pos h1] at hh
    refine awp_true (by first | exact congrArg PV.bool h1 | rfl) ?_
    refine awp_first fun K kk hK => ?_
    simp only [go_sem, ↓reduceIte, reduceCtorEq, Nat.reduceEqDiff, Nat.reduceAdd, Nat.reduceMul, Nat.reduceSub, Nat.reduceLT, Nat.reduceLeDiff, Nat.reducePow, Nat.reduceBEq, Nat.reduceBNe, Int.reduceNeg, Int.reduceBEq, Int.reduceBNe, Int.reduceAdd, Int.reduceSub, Int.reduceMul, Int.reduceLT, Int.reduceLE, Int.reduceToNat, Int.reduceEq, Int.reduceNe, List.take_length, take_map_len, runesOf_eq, runeBytes_map, an_diptychlaw3_same, nf_diptychlaw3_same, fp_diptychlaw3_same, ty3, ty5, ty9, ty31, ty34, ty40, ty78, diptychlaw3_Cell.pv_eq, api_Attr.pv_eq, api_Node.pv_eq, token_Token.pv_eq, diptychref3_Token.pv_eq, pvL, List.map_nil]
    refine hK _ _ fun nx => ?_; clear hK K; try clear kk
    refine awp_ret ?_; (repeat (with_reducible first | refine then_n ?_ | refine then_r ?_ | refine then_e ?_ | refine block_n ?_ | refine block_r ?_ | refine exit_here ?_ | refine exit_on rfl ?_ | refine scope_n ?_ | refine scope_r ?_ | refine scope_e ?_ | refine cut_awp ?_))
    obtain hR := Option.some.inj hh
    subst hR
    refine ret_pure2 ?_ (by rfl)
    simp only [go_sem, ↓reduceIte, reduceCtorEq, Nat.reduceEqDiff, Nat.reduceAdd, Nat.reduceMul, Nat.reduceSub, Nat.reduceLT, Nat.reduceLeDiff, Nat.reducePow, Nat.reduceBEq, Nat.reduceBNe, Int.reduceNeg, Int.reduceBEq, Int.reduceBNe, Int.reduceAdd, Int.reduceSub, Int.reduceMul, Int.reduceLT, Int.reduceLE, Int.reduceToNat, Int.reduceEq, Int.reduceNe, List.take_length, take_map_len, runesOf_eq, runeBytes_map, an_diptychlaw3_same, nf_diptychlaw3_same, fp_diptychlaw3_same, ty3, ty5, ty9, ty31, ty34, ty40, ty78, diptychlaw3_Cell.pv_eq, api_Attr.pv_eq, api_Node.pv_eq, token_Token.pv_eq, diptychref3_Token.pv_eq, pvL, List.map_nil, rvsRes, rvRes, cellRes, tupOf, pur2, List.map_cons, List.map_append, List.head?_cons]
    (repeat (first | exact Wk.refl _ | exact WkL.refl _ | exact Wk.nil _ | refine Wk.agg _ _ ?_ | refine Wk.tup _ _ ?_ | refine WkL.cons _ _ _ _ ?_ ?_ | exact WkL.nil))
  · rw [if_neg h1] at hh
    replace h1 := Bool.eq_false_iff.mpr h1
    refine awp_false (by first | exact congrArg PV.bool h1 | rfl) ?_
    refine awp_skip ?_; (repeat (with_reducible first | refine then_n ?_ | refine then_r ?_ | refine then_e ?_ | refine block_n ?_ | refine block_r ?_ | refine exit_here ?_ | refine exit_on rfl ?_ | refine scope_n ?_ | refine scope_r ?_ | refine scope_e ?_ | refine cut_awp ?_))
    refine awp_seq ?_
    refine awp_first fun K kk hK => ?_
    simp only [go_sem, ↓reduceIte, reduceCtorEq, Nat.reduceEqDiff, Nat.reduceAdd, Nat.reduceMul, Nat.reduceSub, Nat.reduceLT, Nat.reduceLeDiff, Nat.reducePow, Nat.reduceBEq, Nat.reduceBNe, Int.reduceNeg, Int.reduceBEq, Int.reduceBNe, Int.reduceAdd, Int.reduceSub, Int.reduceMul, Int.reduceLT, Int.reduceLE, Int.reduceToNat, Int.reduceEq, Int.reduceNe, List.take_length, take_map_len, runesOf_eq, runeBytes_map, an_diptychlaw3_same, nf_diptychlaw3_same, fp_diptychlaw3_same, ty3, ty5, ty9, ty31, ty34, ty40, ty78, diptychlaw3_Cell.pv_eq, api_Attr.pv_eq, api_Node.pv_eq, token_Token.pv_eq, diptychref3_Token.pv_eq, pvL, List.map_nil]
    refine hK _ _ fun nx => ?_; clear hK K; try clear kk
    obtain ⟨e0, f0, hh⟩ := bind_ex hh
    obtain ⟨hlen0, f0⟩ := chk_some f0
    refine awp_fragE (CutTo (fun s => .inr () = e0 ∧ ∃ (i_11 : Int) (v_12 : Bool) (nx : Nat), s = ⟨[(0, .list 3 (a_1.map token_Token.pv)), (1, .list 3 (b_2.map diptychref3_Token.pv)), (5, .int .i64 i_11), (14, .bool v_12)], [], nx⟩))
      (fun i s => False)
      (fun s => ∃ res_10, .inl res_10 = e0 ∧ bodyR Tryd.prog [.tmp 4] (.bool res_10) [] .ret s) ?_ ?_ ?_ ?_
    · refine awp_block ?_
      refine awp_loopJ fun I hI => ?_
      have key : ∀ (suf pre : List token_Token) (i_5 : Int), a_1 = pre ++ suf → i_5 = (pre.length : Int) → diptychlaw3_same_l0 b_2 suf i_5 = some e0 → ∀ (nx : Nat), I ⟨[(0, .list 3 (a_1.map token_Token.pv)), (1, .list 3 (b_2.map diptychref3_Token.pv)), (5, .int .i64 i_5)], [], nx⟩ := by
        intro suf
        induction suf with
        | nil =>
          intro pre i_5 hsplit hidx hh nx
          rw [diptychlaw3_same_l0] at hh
          refine hI _ ?_
          have h14 := walk_nil hsplit hidx
          refine awp_seq ?_
          refine awp_first fun K kk hK => ?_
          simp only [go_sem, ↓reduceIte, reduceCtorEq, Nat.reduceEqDiff, Nat.reduceAdd, Nat.reduceMul, Nat.reduceSub, Nat.reduceLT, Nat.reduceLeDiff, Nat.reducePow, Nat.reduceBEq, Nat.reduceBNe, Int.reduceNeg, Int.reduceBEq, Int.reduceBNe, Int.reduceAdd, Int.reduceSub, Int.reduceMul, Int.reduceLT, Int.reduceLE, Int.reduceToNat, Int.reduceEq, Int.reduceNe, List.take_length, take_map_len, runesOf_eq, runeBytes_map, an_diptychlaw3_same, nf_diptychlaw3_same, fp_diptychlaw3_same, ty3, ty5, ty9, ty31, ty34, ty40, ty78, diptychlaw3_Cell.pv_eq, api_Attr.pv_eq, api_Node.pv_eq, token_Token.pv_eq, diptychref3_Token.pv_eq, pvL, List.map_nil]
          refine hK _ _ fun nx => ?_; clear hK K; try clear kk
          refine awp_false (by first | exact congrArg PV.bool h14 | rfl) ?_
          refine awp_exit ?_; (repeat (with_reducible first | refine then_n ?_ | refine then_r ?_ | refine then_e ?_ | refine block_n ?_ | refine block_r ?_ | refine exit_here ?_ | refine exit_on rfl ?_ | refine scope_n ?_ | refine scope_r ?_ | refine scope_e ?_ | refine cut_awp ?_))
          refine fragN ?_
          refine cut_id ?_
          refine ⟨(Option.some.inj hh), ?_⟩
          first | exact ⟨_, _, _, rfl⟩ | (simp only [diptychlaw3_Cell.pv_eq, api_Attr.pv_eq, api_Node.pv_eq, token_Token.pv_eq, diptychref3_Token.pv_eq, pvL, List.map_cons, List.map_nil, List.map_append, rune1]; exact ⟨_, _, _, rfl⟩)
        | cons y_8 suf ih =>
          intro pre i_5 hsplit hidx hh nx
          rw [diptychlaw3_same_l0] at hh
          refine hI _ ?_
          obtain ⟨hl0a, hl0b, hl0d, hl0w, h14⟩ := walk_cons (f := token_Token.pv) hsplit hidx hlen0
          refine awp_seq ?_
          refine awp_first fun K kk hK => ?_
          simp only [go_sem, ↓reduceIte, reduceCtorEq, Nat.reduceEqDiff, Nat.reduceAdd, Nat.reduceMul, Nat.reduceSub, Nat.reduceLT, Nat.reduceLeDiff, Nat.reducePow, Nat.reduceBEq, Nat.reduceBNe, Int.reduceNeg, Int.reduceBEq, Int.reduceBNe, Int.reduceAdd, Int.reduceSub, Int.reduceMul, Int.reduceLT, Int.reduceLE, Int.reduceToNat, Int.reduceEq, Int.reduceNe, List.take_length, take_map_len, runesOf_eq, runeBytes_map, an_diptychlaw3_same, nf_diptychlaw3_same, fp_diptychlaw3_same, ty3, ty5, ty9, ty31, ty34, ty40, ty78, diptychlaw3_Cell.pv_eq, api_Attr.pv_eq, api_Node.pv_eq, token_Token.pv_eq, diptychref3_Token.pv_eq, pvL, List.map_nil]
          refine hK _ _ fun nx => ?_; clear hK K; try clear kk
          refine awp_true (by first | exact congrArg PV.bool h14 | rfl) ?_
          refine awp_skip ?_; (repeat (with_reducible first | refine then_n ?_ | refine then_r ?_ | refine then_e ?_ | refine block_n ?_ | refine block_r ?_ | refine exit_here ?_ | refine exit_on rfl ?_ | refine scope_n ?_ | refine scope_r ?_ | refine scope_e ?_ | refine cut_awp ?_))
          refine awp_seq ?_
          refine awp_block ?_
          obtain ⟨x_9, h15, hh⟩ := bind_ex hh
          obtain ⟨h15a, h15b, h15c⟩ := rd_some h15
          have h15d := rd_get (f := diptychref3_Token.pv) h15c
          have h15f := rd_more (f := diptychref3_Token.pv) h15c
          try simp only [Int.toNat_natCast, Int.reduceToNat] at h15d h15f
          by_cases h16 : (y_8.Kind != x_9.Kind) = true
          · rw [if_pos h16] at hh
            refine awp_first fun K kk hK => ?_
            simp only [go_sem, ↓reduceIte, reduceCtorEq, Nat.reduceEqDiff, Nat.reduceAdd, Nat.reduceMul, Nat.reduceSub, Nat.reduceLT, Nat.reduceLeDiff, Nat.reducePow, Nat.reduceBEq, Nat.reduceBNe, Int.reduceNeg, Int.reduceBEq, Int.reduceBNe, Int.reduceAdd, Int.reduceSub, Int.reduceMul, Int.reduceLT, Int.reduceLE, Int.reduceToNat, Int.reduceEq, Int.reduceNe, List.take_length, take_map_len, runesOf_eq, runeBytes_map, an_diptychlaw3_same, nf_diptychlaw3_same, fp_diptychlaw3_same, ty3, ty5, ty9, ty31, ty34, ty40, ty78, diptychlaw3_Cell.pv_eq, api_Attr.pv_eq, api_Node.pv_eq, token_Token.pv_eq, diptychref3_Token.pv_eq, pvL, List.map_nil, h15a, h15b, h15d, h15f.1, h15f.2, h16, h16, hl0a, hl0b, hl0d, hl0w]
            (repeat (refine And.intro ?_ ?_; focus (first | assumption | (try simp only [List.length_append, List.length_cons, List.length_nil] at *; omega))))
            refine hK _ _ fun nx => ?_; clear hK K; try clear kk
            refine awp_true rfl ?_
            refine awp_first fun K kk hK => ?_
            simp only [go_sem, ↓reduceIte, reduceCtorEq, Nat.reduceEqDiff, Nat.reduceAdd, Nat.reduceMul, Nat.reduceSub, Nat.reduceLT, Nat.reduceLeDiff, Nat.reducePow, Nat.reduceBEq, Nat.reduceBNe, Int.reduceNeg, Int.reduceBEq, Int.reduceBNe, Int.reduceAdd, Int.reduceSub, Int.reduceMul, Int.reduceLT, Int.reduceLE, Int.reduceToNat, Int.reduceEq, Int.reduceNe, List.take_length, take_map_len, runesOf_eq, runeBytes_map, an_diptychlaw3_same, nf_diptychlaw3_same, fp_diptychlaw3_same, ty3, ty5, ty9, ty31, ty34, ty40, ty78, diptychlaw3_Cell.pv_eq, api_Attr.pv_eq, api_Node.pv_eq, token_Token.pv_eq, diptychref3_Token.pv_eq, pvL, List.map_nil, hl0a, hl0b, hl0d, hl0w]
            refine hK _ _ fun nx => ?_; clear hK K; try clear kk
            refine awp_ret ?_; (repeat (with_reducible first | refine then_n ?_ | refine then_r ?_ | refine then_e ?_ | refine block_n ?_ | refine block_r ?_ | refine exit_here ?_ | refine exit_on rfl ?_ | refine scope_n ?_ | refine scope_r ?_ | refine scope_e ?_ | refine cut_awp ?_))
            refine fragR ⟨_, (Option.some.inj hh), ?_⟩
            refine ret_pure2 ?_ (by rfl)
            simp only [go_sem, ↓reduceIte, reduceCtorEq, Nat.reduceEqDiff, Nat.reduceAdd, Nat.reduceMul, Nat.reduceSub, Nat.reduceLT, Nat.reduceLeDiff, Nat.reducePow, Nat.reduceBEq, Nat.reduceBNe, Int.reduceNeg, Int.reduceBEq, Int.reduceBNe, Int.reduceAdd, Int.reduceSub, Int.reduceMul, Int.reduceLT, Int.reduceLE, Int.reduceToNat, Int.reduceEq, Int.reduceNe, List.take_length, take_map_len, runesOf_eq, runeBytes_map, an_diptychlaw3_same, nf_diptychlaw3_same, fp_diptychlaw3_same, ty3, ty5, ty9, ty31, ty34, ty40, ty78, diptychlaw3_Cell.pv_eq, api_Attr.pv_eq, api_Node.pv_eq, token_Token.pv_eq, diptychref3_Token.pv_eq, pvL, List.map_nil, rvsRes, rvRes, cellRes, tupOf, pur2, List.map_cons, List.map_append, List.head?_cons]
            (repeat (first | exact Wk.refl _ | exact WkL.refl _ | exact Wk.nil _ | refine Wk.agg _ _ ?_ | refine Wk.tup _ _ ?_ | refine WkL.cons _ _ _ _ ?_ ?_ | exact WkL.nil))
          · rw [if_neg h16] at hh
            replace h16 := Bool.eq_false_iff.mpr h16
            by_cases h17 : (!(y_8.Text == x_9.Text)) = true
            · rw [if_pos h17] at hh
              refine awp_first fun K kk hK => ?_
              simp only [go_sem, ↓reduceIte, reduceCtorEq, Nat.reduceEqDiff, Nat.reduceAdd, Nat.reduceMul, Nat.reduceSub, Nat.reduceLT, Nat.reduceLeDiff, Nat.reducePow, Nat.reduceBEq, Nat.reduceBNe, Int.reduceNeg, Int.reduceBEq, Int.reduceBNe, Int.reduceAdd, Int.reduceSub, Int.reduceMul, Int.reduceLT, Int.reduceLE, Int.reduceToNat, Int.reduceEq, Int.reduceNe, List.take_length, take_map_len, runesOf_eq, runeBytes_map, an_diptychlaw3_same, nf_diptychlaw3_same, fp_diptychlaw3_same, ty3, ty5, ty9, ty31, ty34, ty40, ty78, diptychlaw3_Cell.pv_eq, api_Attr.pv_eq, api_Node.pv_eq, token_Token.pv_eq, diptychref3_Token.pv_eq, pvL, List.map_nil, h15a, h15b, h15d, h15f.1, h15f.2, h16, h15a, h15b, h15d, h15f.1, h15f.2, h16, h17, h17, hl0a, hl0b, hl0d, hl0w]
              (repeat (refine And.intro ?_ ?_; focus (first | assumption | (try simp only [List.length_append, List.length_cons, List.length_nil] at *; omega))))
              refine hK _ _ fun nx => ?_; clear hK K; try clear kk
              refine awp_true rfl ?_
              refine awp_first fun K kk hK => ?_
              simp only [go_sem, ↓reduceIte, reduceCtorEq, Nat.reduceEqDiff, Nat.reduceAdd, Nat.reduceMul, Nat.reduceSub, Nat.reduceLT, Nat.reduceLeDiff, Nat.reducePow, Nat.reduceBEq, Nat.reduceBNe, Int.reduceNeg, Int.reduceBEq, Int.reduceBNe, Int.reduceAdd, Int.reduceSub, Int.reduceMul, Int.reduceLT, Int.reduceLE, Int.reduceToNat, Int.reduceEq, Int.reduceNe, List.take_length, take_map_len, runesOf_eq, runeBytes_map, an_diptychlaw3_same, nf_diptychlaw3_same, fp_diptychlaw3_same, ty3, ty5, ty9, ty31, ty34, ty40, ty78, diptychlaw3_Cell.pv_eq, api_Attr.pv_eq, api_Node.pv_eq, token_Token.pv_eq, diptychref3_Token.pv_eq, pvL, List.map_nil, hl0a, hl0b, hl0d, hl0w]
              refine hK _ _ fun nx => ?_; clear hK K; try clear kk
              refine awp_ret ?_; (repeat (with_reducible first | refine then_n ?_ | refine then_r ?_ | refine then_e ?_ | refine block_n ?_ | refine block_r ?_ | refine exit_here ?_ | refine exit_on rfl ?_ | refine scope_n ?_ | refine scope_r ?_ | refine scope_e ?_ | refine cut_awp ?_))
              refine fragR ⟨_, (Option.some.inj hh), ?_⟩
              refine ret_pure2 ?_ (by rfl)
              simp only [go_sem, ↓reduceIte, reduceCtorEq, Nat.reduceEqDiff, Nat.reduceAdd, Nat.reduceMul, Nat.reduceSub, Nat.reduceLT, Nat.reduceLeDiff, Nat.reducePow, Nat.reduceBEq, Nat.reduceBNe, Int.reduceNeg, Int.reduceBEq, Int.reduceBNe, Int.reduceAdd, Int.reduceSub, Int.reduceMul, Int.reduceLT, Int.reduceLE, Int.reduceToNat, Int.reduceEq, Int.reduceNe, List.take_length, take_map_len, runesOf_eq, runeBytes_map, an_diptychlaw3_same, nf_diptychlaw3_same, fp_diptychlaw3_same, ty3, ty5, ty9, ty31, ty34, ty40, ty78, diptychlaw3_Cell.pv_eq, api_Attr.pv_eq, api_Node.pv_eq, token_Token.pv_eq, diptychref3_Token.pv_eq, pvL, List.map_nil, rvsRes, rvRes, cellRes, tupOf, pur2, List.map_cons, List.map_append, List.head?_cons]
              (repeat (first | exact Wk.refl _ | exact WkL.refl _ | exact Wk.nil _ | refine Wk.agg _ _ ?_ | refine Wk.tup _ _ ?_ | refine WkL.cons _ _ _ _ ?_ ?_ | exact WkL.nil))
            · rw [if_neg h17] at hh
              replace h17 := Bool.eq_false_iff.mpr h17
              refine awp_first fun K kk hK => ?_
              simp only [go_sem, ↓reduceIte, reduceCtorEq, Nat.reduceEqDiff, Nat.reduceAdd, Nat.reduceMul, Nat.reduceSub, Nat.reduceLT, Nat.reduceLeDiff, Nat.reducePow, Nat.reduceBEq, Nat.reduceBNe, Int.reduceNeg, Int.reduceBEq, Int.reduceBNe, Int.reduceAdd, Int.reduceSub, Int.reduceMul, Int.reduceLT, Int.reduceLE, Int.reduceToNat, Int.reduceEq, Int.reduceNe, List.take_length, take_map_len, runesOf_eq, runeBytes_map, an_diptychlaw3_same, nf_diptychlaw3_same, fp_diptychlaw3_same, ty3, ty5, ty9, ty31, ty34, ty40, ty78, diptychlaw3_Cell.pv_eq, api_Attr.pv_eq, api_Node.pv_eq, token_Token.pv_eq, diptychref3_Token.pv_eq, pvL, List.map_nil, h15a, h15b, h15d, h15f.1, h15f.2, h16, h15a, h15b, h15d, h15f.1, h15f.2, h16, h17, h15a, h15b, h15d, h15f.1, h15f.2, h17, hl0a, hl0b, hl0d, hl0w]
              (repeat (refine And.intro ?_ ?_; focus (first | assumption | (try simp only [List.length_append, List.length_cons, List.length_nil] at *; omega))))
              refine hK _ _ fun nx => ?_; clear hK K; try clear kk
              by_cases h18 : (!(y_8.Head == x_9.Head)) = true
              · rw [if_pos h18] at hh
                refine awp_true (by first | exact congrArg PV.bool h18 | rfl) ?_
                refine awp_first fun K kk hK => ?_
                simp only [go_sem, ↓reduceIte, reduceCtorEq, Nat.reduceEqDiff, Nat.reduceAdd, Nat.reduceMul, Nat.reduceSub, Nat.reduceLT, Nat.reduceLeDiff, Nat.reducePow, Nat.reduceBEq, Nat.reduceBNe, Int.reduceNeg, Int.reduceBEq, Int.reduceBNe, Int.reduceAdd, Int.reduceSub, Int.reduceMul, Int.reduceLT, Int.reduceLE, Int.reduceToNat, Int.reduceEq, Int.reduceNe, List.take_length, take_map_len, runesOf_eq, runeBytes_map, an_diptychlaw3_same, nf_diptychlaw3_same, fp_diptychlaw3_same, ty3, ty5, ty9, ty31, ty34, ty40, ty78, diptychlaw3_Cell.pv_eq, api_Attr.pv_eq, api_Node.pv_eq, token_Token.pv_eq, diptychref3_Token.pv_eq, pvL, List.map_nil, hl0a, hl0b, hl0d, hl0w]
                refine hK _ _ fun nx => ?_; clear hK K; try clear kk
                refine awp_ret ?_; (repeat (with_reducible first | refine then_n ?_ | refine then_r ?_ | refine then_e ?_ | refine block_n ?_ | refine block_r ?_ | refine exit_here ?_ | refine exit_on rfl ?_ | refine scope_n ?_ | refine scope_r ?_ | refine scope_e ?_ | refine cut_awp ?_))
                refine fragR ⟨_, (Option.some.inj hh), ?_⟩
                refine ret_pure2 ?_ (by rfl)
                simp only [go_sem, ↓reduceIte, reduceCtorEq, Nat.reduceEqDiff, Nat.reduceAdd, Nat.reduceMul, Nat.reduceSub, Nat.reduceLT, Nat.reduceLeDiff, Nat.reducePow, Nat.reduceBEq, Nat.reduceBNe, Int.reduceNeg, Int.reduceBEq, Int.reduceBNe, Int.reduceAdd, Int.reduceSub, Int.reduceMul, Int.reduceLT, Int.reduceLE, Int.reduceToNat, Int.reduceEq, Int.reduceNe, List.take_length, take_map_len, runesOf_eq, runeBytes_map, an_diptychlaw3_same, nf_diptychlaw3_same, fp_diptychlaw3_same, ty3, ty5, ty9, ty31, ty34, ty40, ty78, diptychlaw3_Cell.pv_eq, api_Attr.pv_eq, api_Node.pv_eq, token_Token.pv_eq, diptychref3_Token.pv_eq, pvL, List.map_nil, rvsRes, rvRes, cellRes, tupOf, pur2, List.map_cons, List.map_append, List.head?_cons]
                (repeat (first | exact Wk.refl _ | exact WkL.refl _ | exact Wk.nil _ | refine Wk.agg _ _ ?_ | refine Wk.tup _ _ ?_ | refine WkL.cons _ _ _ _ ?_ ?_ | exact WkL.nil))
              · rw [if_neg h18] at hh
                replace h18 := Bool.eq_false_iff.mpr h18
                refine awp_false (by first | exact congrArg PV.bool h18 | rfl) ?_
                refine awp_skip ?_; (repeat (with_reducible first | refine then_n ?_ | refine then_r ?_ | refine then_e ?_ | refine block_n ?_ | refine block_r ?_ | refine exit_here ?_ | refine exit_on rfl ?_ | refine scope_n ?_ | refine scope_r ?_ | refine scope_e ?_ | refine cut_awp ?_))
                refine awp_region fun K kk hK => ?_
                simp only [go_sem, ↓reduceIte, reduceCtorEq, Nat.reduceEqDiff, Nat.reduceAdd, Nat.reduceMul, Nat.reduceSub, Nat.reduceLT, Nat.reduceLeDiff, Nat.reducePow, Nat.reduceBEq, Nat.reduceBNe, Int.reduceNeg, Int.reduceBEq, Int.reduceBNe, Int.reduceAdd, Int.reduceSub, Int.reduceMul, Int.reduceLT, Int.reduceLE, Int.reduceToNat, Int.reduceEq, Int.reduceNe, List.take_length, take_map_len, runesOf_eq, runeBytes_map, an_diptychlaw3_same, nf_diptychlaw3_same, fp_diptychlaw3_same, ty3, ty5, ty9, ty31, ty34, ty40, ty78, diptychlaw3_Cell.pv_eq, api_Attr.pv_eq, api_Node.pv_eq, token_Token.pv_eq, diptychref3_Token.pv_eq, pvL, List.map_nil, hl0a, hl0b, hl0d, hl0w]
                refine hK _ _ fun nx => ?_; clear hK K; try clear kk
                (repeat (with_reducible first | refine then_n ?_ | refine then_r ?_ | refine then_e ?_ | refine block_n ?_ | refine block_r ?_ | refine exit_here ?_ | refine exit_on rfl ?_ | refine scope_n ?_ | refine scope_r ?_ | refine scope_e ?_ | refine cut_awp ?_))
                have ih' := ih (pre ++ [y_8]) (i_5 + 1) (by rw [hsplit]; simp) (by simp [hidx]) hh nx
                refine cut_id ?_
                first | exact ih' | (simp only [diptychlaw3_Cell.pv_eq, api_Attr.pv_eq, api_Node.pv_eq, token_Token.pv_eq, diptychref3_Token.pv_eq, pvL, List.map_cons, List.map_nil, List.map_append, rune1] at ih' ⊢; exact ih')
      exact key a_1 [] _ rfl rfl f0 _
    · rintro s ⟨t, hless, rfl, i_11, v_12, nx, rfl⟩
      try dsimp only at hh
      (repeat (with_reducible first | refine then_n ?_ | refine then_r ?_ | refine then_e ?_ | refine block_n ?_ | refine block_r ?_ | refine exit_here ?_ | refine exit_on rfl ?_ | refine scope_n ?_ | refine scope_r ?_ | refine scope_e ?_))
      first | (refine cut_less hless ?_; try refine cut_awp ?_) | refine frag_less hless ?_
      refine awp_first fun K kk hK => ?_
      simp only [go_sem, ↓reduceIte, reduceCtorEq, Nat.reduceEqDiff, Nat.reduceAdd, Nat.reduceMul, Nat.reduceSub, Nat.reduceLT, Nat.reduceLeDiff, Nat.reducePow, Nat.reduceBEq, Nat.reduceBNe, Int.reduceNeg, Int.reduceBEq, Int.reduceBNe, Int.reduceAdd, Int.reduceSub, Int.reduceMul, Int.reduceLT, Int.reduceLE, Int.reduceToNat, Int.reduceEq, Int.reduceNe, List.take_length, take_map_len, runesOf_eq, runeBytes_map, an_diptychlaw3_same, nf_diptychlaw3_same, fp_diptychlaw3_same, ty3, ty5, ty9, ty31, ty34, ty40, ty78, diptychlaw3_Cell.pv_eq, api_Attr.pv_eq, api_Node.pv_eq, token_Token.pv_eq, diptychref3_Token.pv_eq, pvL, List.map_nil]
      refine hK _ _ fun nx => ?_; clear hK K; try clear kk
      refine awp_ret ?_; (repeat (with_reducible first | refine then_n ?_ | refine then_r ?_ | refine then_e ?_ | refine block_n ?_ | refine block_r ?_ | refine exit_here ?_ | refine exit_on rfl ?_ | refine scope_n ?_ | refine scope_r ?_ | refine scope_e ?_ | refine cut_awp ?_))
      obtain hR := Option.some.inj hh
      subst hR
      refine ret_pure2 ?_ (by rfl)
      simp only [go_sem, ↓reduceIte, reduceCtorEq, Nat.reduceEqDiff, Nat.reduceAdd, Nat.reduceMul, Nat.reduceSub, Nat.reduceLT, Nat.reduceLeDiff, Nat.reducePow, Nat.reduceBEq, Nat.reduceBNe, Int.reduceNeg, Int.reduceBEq, Int.reduceBNe, Int.reduceAdd, Int.reduceSub, Int.reduceMul, Int.reduceLT, Int.reduceLE, Int.reduceToNat, Int.reduceEq, Int.reduceNe, List.take_length, take_map_len, runesOf_eq, runeBytes_map, an_diptychlaw3_same, nf_diptychlaw3_same, fp_diptychlaw3_same, ty3, ty5, ty9, ty31, ty34, ty40, ty78, diptychlaw3_Cell.pv_eq, api_Attr.pv_eq, api_Node.pv_eq, token_Token.pv_eq, diptychref3_Token.pv_eq, pvL, List.map_nil, rvsRes, rvRes, cellRes, tupOf, pur2, List.map_cons, List.map_append, List.head?_cons]
      (repeat (first | exact Wk.refl _ | exact WkL.refl _ | exact Wk.nil _ | refine Wk.agg _ _ ?_ | refine Wk.tup _ _ ?_ | refine WkL.cons _ _ _ _ ?_ ?_ | exact WkL.nil))
    · intro i s h; exact h.elim
    · rintro s ⟨res_10, rfl, hb⟩
      try dsimp only at hh
      obtain hR := Option.some.inj hh
      subst hR
      (repeat (with_reducible first | refine then_n ?_ | refine then_r ?_ | refine then_e ?_ | refine block_n ?_ | refine block_r ?_ | refine exit_here ?_ | refine exit_on rfl ?_ | refine scope_n ?_ | refine scope_r ?_ | refine scope_e ?_ | refine cut_awp ?_))
      exact hb
theorem diptychref2_Quote_ok (s_1 : Str) (R : Str) (hh : diptychref2_Quote s_1 = some R) : PC Tryd.prog 85 [.str s_1] (.str R) := by
  rw [diptychref2_Quote] at hh
  refine start_diptychref2_Quote rfl ?_
  refine awp_first fun K kk hK => ?_
  simp only [go_sem, ↓reduceIte, reduceCtorEq, Nat.reduceEqDiff, Nat.reduceAdd, Nat.reduceMul, Nat.reduceSub, Nat.reduceLT, Nat.reduceLeDiff, Nat.reducePow, Nat.reduceBEq, Nat.reduceBNe, Int.reduceNeg, Int.reduceBEq, Int.reduceBNe, Int.reduceAdd, Int.reduceSub, Int.reduceMul, Int.reduceLT, Int.reduceLE, Int.reduceToNat, Int.reduceEq, Int.reduceNe, List.take_length, take_map_len, runesOf_eq, runeBytes_map, an_diptychref2_Quote, nf_diptychref2_Quote, fp_diptychref2_Quote, ty3, ty5, ty9, diptychlaw3_Cell.pv_eq, api_Attr.pv_eq, api_Node.pv_eq, token_Token.pv_eq, diptychref3_Token.pv_eq, pvL, List.map_nil]
  refine hK _ _ fun nx => ?_; clear hK K; try clear kk
  refine awp_first fun K kk hK => ?_
  simp only [go_sem, ↓reduceIte, reduceCtorEq, Nat.reduceEqDiff, Nat.reduceAdd, Nat.reduceMul, Nat.reduceSub, Nat.reduceLT, Nat.reduceLeDiff, Nat.reducePow, Nat.reduceBEq, Nat.reduceBNe, Int.reduceNeg, Int.reduceBEq, Int.reduceBNe, Int.reduceAdd, Int.reduceSub, Int.reduceMul, Int.reduceLT, Int.reduceLE, Int.reduceToNat, Int.reduceEq, Int.reduceNe, List.take_length, take_map_len, runesOf_eq, runeBytes_map, an_diptychref2_Quote, nf_diptychref2_Quote, fp_diptychref2_Quote, ty3, ty5, ty9, diptychlaw3_Cell.pv_eq, api_Attr.pv_eq, api_Node.pv_eq, token_Token.pv_eq, diptychref3_Token.pv_eq, pvL, List.map_nil]
  refine hK _ _ fun nx => ?_; clear hK K; try clear kk
  refine awp_seq ?_
  refine awp_first fun K kk hK => ?_
  simp only [go_sem, ↓reduceIte, reduceCtorEq, Nat.reduceEqDiff, Nat.reduceAdd, Nat.reduceMul, Nat.reduceSub, Nat.reduceLT, Nat.reduceLeDiff, Nat.reducePow, Nat.reduceBEq, Nat.reduceBNe, Int.reduceNeg, Int.reduceBEq, Int.reduceBNe, Int.reduceAdd, Int.reduceSub, Int.reduceMul, Int.reduceLT, Int.reduceLE, Int.reduceToNat, Int.reduceEq, Int.reduceNe, List.take_length, take_map_len, runesOf_eq, runeBytes_map, an_diptychref2_Quote, nf_diptychref2_Quote, fp_diptychref2_Quote, ty3, ty5, ty9, diptychlaw3_Cell.pv_eq, api_Attr.pv_eq, api_Node.pv_eq, token_Token.pv_eq, diptychref3_Token.pv_eq, pvL, List.map_nil]
  refine hK _ _ fun nx => ?_; clear hK K; try clear kk
  obtain ⟨e0, f0, hh⟩ := bind_ex hh
  refine awp_fragE (CutTo (fun s => ∃ out_10, out_10 = e0 ∧ ∃ (i_11 : Int) (v_12 : Bool) (nx : Nat), s = ⟨[(0, .str s_1), (3, .str out_10), (4, .int .i64 i_11), (8, .bool v_12)], [], nx⟩))
    (fun i s => False)
    (fun s => False) ?_ ?_ ?_ ?_
  · refine awp_block ?_
    refine awp_loopJ fun I hI => ?_
    obtain ⟨k, f0⟩ := lim_some f0
    have key : ∀ (k : Nat) (out_5 : Str) (i_6 : Int), diptychref2_Quote_l0 s_1 k out_5 i_6 = some e0 → ∀ (nx : Nat), I ⟨[(0, .str s_1), (3, .str out_5), (4, .int .i64 i_6)], [], nx⟩ := by
      intro k
      induction k with
      | zero => intro out_5 i_6 hh; rw [diptychref2_Quote_l0] at hh; cases hh
      | succ k ih =>
        intro out_5 i_6 hh nx
        rw [diptychref2_Quote_l0] at hh
        refine hI _ ?_
        refine awp_seq ?_
        refine awp_first fun K kk hK => ?_
        simp only [go_sem, ↓reduceIte, reduceCtorEq, Nat.reduceEqDiff, Nat.reduceAdd, Nat.reduceMul, Nat.reduceSub, Nat.reduceLT, Nat.reduceLeDiff, Nat.reducePow, Nat.reduceBEq, Nat.reduceBNe, Int.reduceNeg, Int.reduceBEq, Int.reduceBNe, Int.reduceAdd, Int.reduceSub, Int.reduceMul, Int.reduceLT, Int.reduceLE, Int.reduceToNat, Int.reduceEq, Int.reduceNe, List.take_length, take_map_len, runesOf_eq, runeBytes_map, an_diptychref2_Quote, nf_diptychref2_Quote, fp_diptychref2_Quote, ty3, ty5, ty9, diptychlaw3_Cell.pv_eq, api_Attr.pv_eq, api_Node.pv_eq, token_Token.pv_eq, diptychref3_Token.pv_eq, pvL, List.map_nil]
        refine hK _ _ fun nx => ?_; clear hK K; try clear kk
        by_cases h14 : (decide (i_6 < (s_1.length : Int))) = true
        · rw [if_pos h14] at hh
          refine awp_true (by first | exact congrArg PV.bool h14 | rfl) ?_
          refine awp_skip ?_; (repeat (with_reducible first | refine then_n ?_ | refine then_r ?_ | refine then_e ?_ | refine block_n ?_ | refine block_r ?_ | refine exit_here ?_ | refine exit_on rfl ?_ | refine scope_n ?_ | refine scope_r ?_ | refine scope_e ?_ | refine cut_awp ?_))
          refine awp_seq ?_
          refine awp_block ?_
          refine awp_seq ?_
          obtain ⟨h15, hh⟩ := chk_some hh
          by_cases h16 : (((s_1.getD i_6.toNat 0).toNat : Int) == (34 : Int)) = true
          · rw [if_pos h16] at hh
            refine awp_first fun K kk hK => ?_
            simp only [go_sem, ↓reduceIte, reduceCtorEq, Nat.reduceEqDiff, Nat.reduceAdd, Nat.reduceMul, Nat.reduceSub, Nat.reduceLT, Nat.reduceLeDiff, Nat.reducePow, Nat.reduceBEq, Nat.reduceBNe, Int.reduceNeg, Int.reduceBEq, Int.reduceBNe, Int.reduceAdd, Int.reduceSub, Int.reduceMul, Int.reduceLT, Int.reduceLE, Int.reduceToNat, Int.reduceEq, Int.reduceNe, List.take_length, take_map_len, runesOf_eq, runeBytes_map, an_diptychref2_Quote, nf_diptychref2_Quote, fp_diptychref2_Quote, ty3, ty5, ty9, diptychlaw3_Cell.pv_eq, api_Attr.pv_eq, api_Node.pv_eq, token_Token.pv_eq, diptychref3_Token.pv_eq, pvL, List.map_nil, h15.1, h15.2, h16, h16]
            (repeat (refine And.intro ?_ ?_; focus (first | assumption | (try simp only [List.length_append, List.length_cons, List.length_nil] at *; omega))))
            refine hK _ _ fun nx => ?_; clear hK K; try clear kk
            refine awp_true rfl ?_
            obtain ⟨h17, hh⟩ := chk_some hh
            refine awp_region fun K kk hK => ?_
            simp only [go_sem, ↓reduceIte, reduceCtorEq, Nat.reduceEqDiff, Nat.reduceAdd, Nat.reduceMul, Nat.reduceSub, Nat.reduceLT, Nat.reduceLeDiff, Nat.reducePow, Nat.reduceBEq, Nat.reduceBNe, Int.reduceNeg, Int.reduceBEq, Int.reduceBNe, Int.reduceAdd, Int.reduceSub, Int.reduceMul, Int.reduceLT, Int.reduceLE, Int.reduceToNat, Int.reduceEq, Int.reduceNe, List.take_length, take_map_len, runesOf_eq, runeBytes_map, an_diptychref2_Quote, nf_diptychref2_Quote, fp_diptychref2_Quote, ty3, ty5, ty9, diptychlaw3_Cell.pv_eq, api_Attr.pv_eq, api_Node.pv_eq, token_Token.pv_eq, diptychref3_Token.pv_eq, pvL, List.map_nil, h17]
            (repeat (refine And.intro ?_ ?_; focus (first | assumption | (try simp only [List.length_append, List.length_cons, List.length_nil] at *; omega))))
            refine hK _ _ fun nx => ?_; clear hK K; try clear kk
            (repeat (with_reducible first | refine then_n ?_ | refine then_r ?_ | refine then_e ?_ | refine block_n ?_ | refine block_r ?_ | refine exit_here ?_ | refine exit_on rfl ?_ | refine scope_n ?_ | refine scope_r ?_ | refine scope_e ?_ | refine cut_awp ?_))
            obtain ⟨s_7, h18, hh⟩ := bind_ex hh
            obtain ⟨h18a, h18c⟩ := sl_some h18
            have h18g := sl_le h18a
            have h18d := id h18c
            try simp only [Int.toNat_natCast, Int.reduceToNat] at h18d
            obtain ⟨h19, hh⟩ := chk_some hh
            refine awp_region fun K kk hK => ?_
            simp only [go_sem, ↓reduceIte, reduceCtorEq, Nat.reduceEqDiff, Nat.reduceAdd, Nat.reduceMul, Nat.reduceSub, Nat.reduceLT, Nat.reduceLeDiff, Nat.reducePow, Nat.reduceBEq, Nat.reduceBNe, Int.reduceNeg, Int.reduceBEq, Int.reduceBNe, Int.reduceAdd, Int.reduceSub, Int.reduceMul, Int.reduceLT, Int.reduceLE, Int.reduceToNat, Int.reduceEq, Int.reduceNe, List.take_length, take_map_len, runesOf_eq, runeBytes_map, an_diptychref2_Quote, nf_diptychref2_Quote, fp_diptychref2_Quote, ty3, ty5, ty9, diptychlaw3_Cell.pv_eq, api_Attr.pv_eq, api_Node.pv_eq, token_Token.pv_eq, diptychref3_Token.pv_eq, pvL, List.map_nil, h18a.1, h18a.2.1, h18a.2.2, h18d, h18g, h19]
            (repeat (refine And.intro ?_ ?_; focus (first | assumption | (try simp only [List.length_append, List.length_cons, List.length_nil] at *; omega))))
            refine hK _ _ fun nx => ?_; clear hK K; try clear kk
            (repeat (with_reducible first | refine then_n ?_ | refine then_r ?_ | refine then_e ?_ | refine block_n ?_ | refine block_r ?_ | refine exit_here ?_ | refine exit_on rfl ?_ | refine scope_n ?_ | refine scope_r ?_ | refine scope_e ?_ | refine cut_awp ?_))
            refine awp_region fun K kk hK => ?_
            simp only [go_sem, ↓reduceIte, reduceCtorEq, Nat.reduceEqDiff, Nat.reduceAdd, Nat.reduceMul, Nat.reduceSub, Nat.reduceLT, Nat.reduceLeDiff, Nat.reducePow, Nat.reduceBEq, Nat.reduceBNe, Int.reduceNeg, Int.reduceBEq, Int.reduceBNe, Int.reduceAdd, Int.reduceSub, Int.reduceMul, Int.reduceLT, Int.reduceLE, Int.reduceToNat, Int.reduceEq, Int.reduceNe, List.take_length, take_map_len, runesOf_eq, runeBytes_map, an_diptychref2_Quote, nf_diptychref2_Quote, fp_diptychref2_Quote, ty3, ty5, ty9, diptychlaw3_Cell.pv_eq, api_Attr.pv_eq, api_Node.pv_eq, token_Token.pv_eq, diptychref3_Token.pv_eq, pvL, List.map_nil]
            refine hK _ _ fun nx => ?_; clear hK K; try clear kk
            (repeat (with_reducible first | refine then_n ?_ | refine then_r ?_ | refine then_e ?_ | refine block_n ?_ | refine block_r ?_ | refine exit_here ?_ | refine exit_on rfl ?_ | refine scope_n ?_ | refine scope_r ?_ | refine scope_e ?_ | refine cut_awp ?_))
            have ih' := ih _ _ hh nx
            refine cut_id ?_
            first | exact ih' | (simp only [diptychlaw3_Cell.pv_eq, api_Attr.pv_eq, api_Node.pv_eq, token_Token.pv_eq, diptychref3_Token.pv_eq, pvL, List.map_cons, List.map_nil, List.map_append, rune1] at ih' ⊢; exact ih')
          · rw [if_neg h16] at hh
            replace h16 := Bool.eq_false_iff.mpr h16
            obtain ⟨h20, hh⟩ := chk_some hh
            refine awp_first fun K kk hK => ?_
            simp only [go_sem, ↓reduceIte, reduceCtorEq, Nat.reduceEqDiff, Nat.reduceAdd, Nat.reduceMul, Nat.reduceSub, Nat.reduceLT, Nat.reduceLeDiff, Nat.reducePow, Nat.reduceBEq, Nat.reduceBNe, Int.reduceNeg, Int.reduceBEq, Int.reduceBNe, Int.reduceAdd, Int.reduceSub, Int.reduceMul, Int.reduceLT, Int.reduceLE, Int.reduceToNat, Int.reduceEq, Int.reduceNe, List.take_length, take_map_len, runesOf_eq, runeBytes_map, an_diptychref2_Quote, nf_diptychref2_Quote, fp_diptychref2_Quote, ty3, ty5, ty9, diptychlaw3_Cell.pv_eq, api_Attr.pv_eq, api_Node.pv_eq, token_Token.pv_eq, diptychref3_Token.pv_eq, pvL, List.map_nil, h15.1, h15.2, h16, h20.1, h20.2, h16]
            (repeat (refine And.intro ?_ ?_; focus (first | assumption | (try simp only [List.length_append, List.length_cons, List.length_nil] at *; omega))))
            refine hK _ _ fun nx => ?_; clear hK K; try clear kk
            by_cases h21 : (((s_1.getD i_6.toNat 0).toNat : Int) == (92 : Int)) = true
            · rw [if_pos h21] at hh
              refine awp_true (by first | exact congrArg PV.bool h21 | rfl) ?_
              obtain ⟨h22, hh⟩ := chk_some hh
              refine awp_region fun K kk hK => ?_
              simp only [go_sem, ↓reduceIte, reduceCtorEq, Nat.reduceEqDiff, Nat.reduceAdd, Nat.reduceMul, Nat.reduceSub, Nat.reduceLT, Nat.reduceLeDiff, Nat.reducePow, Nat.reduceBEq, Nat.reduceBNe, Int.reduceNeg, Int.reduceBEq, Int.reduceBNe, Int.reduceAdd, Int.reduceSub, Int.reduceMul, Int.reduceLT, Int.reduceLE, Int.reduceToNat, Int.reduceEq, Int.reduceNe, List.take_length, take_map_len, runesOf_eq, runeBytes_map, an_diptychref2_Quote, nf_diptychref2_Quote, fp_diptychref2_Quote, ty3, ty5, ty9, diptychlaw3_Cell.pv_eq, api_Attr.pv_eq, api_Node.pv_eq, token_Token.pv_eq, diptychref3_Token.pv_eq, pvL, List.map_nil, h22]
              (repeat (refine And.intro ?_ ?_; focus (first | assumption | (try simp only [List.length_append, List.length_cons, List.length_nil] at *; omega))))
              refine hK _ _ fun nx => ?_; clear hK K; try clear kk
              (repeat (with_reducible first | refine then_n ?_ | refine then_r ?_ | refine then_e ?_ | refine block_n ?_ | refine block_r ?_ | refine exit_here ?_ | refine exit_on rfl ?_ | refine scope_n ?_ | refine scope_r ?_ | refine scope_e ?_ | refine cut_awp ?_))
              obtain ⟨s_8, h23, hh⟩ := bind_ex hh
              obtain ⟨h23a, h23c⟩ := sl_some h23
              have h23g := sl_le h23a
              have h23d := id h23c
              try simp only [Int.toNat_natCast, Int.reduceToNat] at h23d
              obtain ⟨h24, hh⟩ := chk_some hh
              refine awp_region fun K kk hK => ?_
              simp only [go_sem, ↓reduceIte, reduceCtorEq, Nat.reduceEqDiff, Nat.reduceAdd, Nat.reduceMul, Nat.reduceSub, Nat.reduceLT, Nat.reduceLeDiff, Nat.reducePow, Nat.reduceBEq, Nat.reduceBNe, Int.reduceNeg, Int.reduceBEq, Int.reduceBNe, Int.reduceAdd, Int.reduceSub, Int.reduceMul, Int.reduceLT, Int.reduceLE, Int.reduceToNat, Int.reduceEq, Int.reduceNe, List.take_length, take_map_len, runesOf_eq, runeBytes_map, an_diptychref2_Quote, nf_diptychref2_Quote, fp_diptychref2_Quote, ty3, ty5, ty9, diptychlaw3_Cell.pv_eq, api_Attr.pv_eq, api_Node.pv_eq, token_Token.pv_eq, diptychref3_Token.pv_eq, pvL, List.map_nil, h23a.1, h23a.2.1, h23a.2.2, h23d, h23g, h24]
              (repeat (refine And.intro ?_ ?_; focus (first | assumption | (try simp only [List.length_append, List.length_cons, List.length_nil] at *; omega))))
              refine hK _ _ fun nx => ?_; clear hK K; try clear kk
              (repeat (with_reducible first | refine then_n ?_ | refine then_r ?_ | refine then_e ?_ | refine block_n ?_ | refine block_r ?_ | refine exit_here ?_ | refine exit_on rfl ?_ | refine scope_n ?_ | refine scope_r ?_ | refine scope_e ?_ | refine cut_awp ?_))
              refine awp_region fun K kk hK => ?_
              simp only [go_sem, ↓reduceIte, reduceCtorEq, Nat.reduceEqDiff, Nat.reduceAdd, Nat.reduceMul, Nat.reduceSub, Nat.reduceLT, Nat.reduceLeDiff, Nat.reducePow, Nat.reduceBEq, Nat.reduceBNe, Int.reduceNeg, Int.reduceBEq, Int.reduceBNe, Int.reduceAdd, Int.reduceSub, Int.reduceMul, Int.reduceLT, Int.reduceLE, Int.reduceToNat, Int.reduceEq, Int.reduceNe, List.take_length, take_map_len, runesOf_eq, runeBytes_map, an_diptychref2_Quote, nf_diptychref2_Quote, fp_diptychref2_Quote, ty3, ty5, ty9, diptychlaw3_Cell.pv_eq, api_Attr.pv_eq, api_Node.pv_eq, token_Token.pv_eq, diptychref3_Token.pv_eq, pvL, List.map_nil]
              refine hK _ _ fun nx => ?_; clear hK K; try clear kk
              (repeat (with_reducible first | refine then_n ?_ | refine then_r ?_ | refine then_e ?_ | refine block_n ?_ | refine block_r ?_ | refine exit_here ?_ | refine exit_on rfl ?_ | refine scope_n ?_ | refine scope_r ?_ | refine scope_e ?_ | refine cut_awp ?_))
              have ih' := ih _ _ hh nx
              refine cut_id ?_
              first | exact ih' | (simp only [diptychlaw3_Cell.pv_eq, api_Attr.pv_eq, api_Node.pv_eq, token_Token.pv_eq, diptychref3_Token.pv_eq, pvL, List.map_cons, List.map_nil, List.map_append, rune1] at ih' ⊢; exact ih')
            · rw [if_neg h21] at hh
              replace h21 := Bool.eq_false_iff.mpr h21
              refine awp_false (by first | exact congrArg PV.bool h21 | rfl) ?_
              refine awp_skip ?_; (repeat (with_reducible first | refine then_n ?_ | refine then_r ?_ | refine then_e ?_ | refine block_n ?_ | refine block_r ?_ | refine exit_here ?_ | refine exit_on rfl ?_ | refine scope_n ?_ | refine scope_r ?_ | refine scope_e ?_ | refine cut_awp ?_))
              obtain ⟨s_9, h25, hh⟩ := bind_ex hh
              obtain ⟨h25a, h25c⟩ := sl_some h25
              have h25g := sl_le h25a
              have h25d := id h25c
              try simp only [Int.toNat_natCast, Int.reduceToNat] at h25d
              obtain ⟨h26, hh⟩ := chk_some hh
              refine awp_region fun K kk hK => ?_
              simp only [go_sem, ↓reduceIte, reduceCtorEq, Nat.reduceEqDiff, Nat.reduceAdd, Nat.reduceMul, Nat.reduceSub, Nat.reduceLT, Nat.reduceLeDiff, Nat.reducePow, Nat.reduceBEq, Nat.reduceBNe, Int.reduceNeg, Int.reduceBEq, Int.reduceBNe, Int.reduceAdd, Int.reduceSub, Int.reduceMul, Int.reduceLT, Int.reduceLE, Int.reduceToNat, Int.reduceEq, Int.reduceNe, List.take_length, take_map_len, runesOf_eq, runeBytes_map, an_diptychref2_Quote, nf_diptychref2_Quote, fp_diptychref2_Quote, ty3, ty5, ty9, diptychlaw3_Cell.pv_eq, api_Attr.pv_eq, api_Node.pv_eq, token_Token.pv_eq, diptychref3_Token.pv_eq, pvL, List.map_nil, h25a.1, h25a.2.1, h25a.2.2, h25d, h25g, h26]
              (repeat (refine And.intro ?_ ?_; focus (first | assumption | (try simp only [List.length_append, List.length_cons, List.length_nil] at *; omega))))
              refine hK _ _ fun nx => ?_; clear hK K; try clear kk
              (repeat (with_reducible first | refine then_n ?_ | refine then_r ?_ | refine then_e ?_ | refine block_n ?_ | refine block_r ?_ | refine exit_here ?_ | refine exit_on rfl ?_ | refine scope_n ?_ | refine scope_r ?_ | refine scope_e ?_ | refine cut_awp ?_))
              refine awp_region fun K kk hK => ?_
              simp only [go_sem, ↓reduceIte, reduceCtorEq, Nat.reduceEqDiff, Nat.reduceAdd, Nat.reduceMul, Nat.reduceSub, Nat.reduceLT, Nat.reduceLeDiff, Nat.reducePow, Nat.reduceBEq, Nat.reduceBNe, Int.reduceNeg, Int.reduceBEq, Int.reduceBNe, Int.reduceAdd, Int.reduceSub, Int.reduceMul, Int.reduceLT, Int.reduceLE, Int.reduceToNat, Int.reduceEq, Int.reduceNe, List.take_length, take_map_len, runesOf_eq, runeBytes_map, an_diptychref2_Quote, nf_diptychref2_Quote, fp_diptychref2_Quote, ty3, ty5, ty9, diptychlaw3_Cell.pv_eq, api_Attr.pv_eq, api_Node.pv_eq, token_Token.pv_eq, diptychref3_Token.pv_eq, pvL, List.map_nil]
              refine hK _ _ fun nx => ?_; clear hK K; try clear kk
              (repeat (with_reducible first | refine then_n ?_ | refine then_r ?_ | refine then_e ?_ | refine block_n ?_ | refine block_r ?_ | refine exit_here ?_ | refine exit_on rfl ?_ | refine scope_n ?_ | refine scope_r ?_ | refine scope_e ?_ | refine cut_awp ?_))
              have ih' := ih _ _ hh nx
              refine cut_id ?_
              first | exact ih' | (simp only [diptychlaw3_Cell.pv_eq, api_Attr.pv_eq, api_Node.pv_eq, token_Token.pv_eq, diptychref3_Token.pv_eq, pvL, List.map_cons, List.map_nil, List.map_append, rune1] at ih' ⊢; exact ih')
        · rw [if_neg h14] at hh
          replace h14 := Bool.eq_false_iff.mpr h14
          refine awp_false (by first | exact congrArg PV.bool h14 | rfl) ?_
          refine awp_exit ?_; (repeat (with_reducible first | refine then_n ?_ | refine then_r ?_ | refine then_e ?_ | refine block_n ?_ | refine block_r ?_ | refine exit_here ?_ | refine exit_on rfl ?_ | refine scope_n ?_ | refine scope_r ?_ | refine scope_e ?_ | refine cut_awp ?_))
          refine fragN ?_
          refine cut_id ?_
          refine ⟨_, (Option.some.inj hh), ?_⟩
          first | exact ⟨_, _, _, rfl⟩ | (simp only [diptychlaw3_Cell.pv_eq, api_Attr.pv_eq, api_Node.pv_eq, token_Token.pv_eq, diptychref3_Token.pv_eq, pvL, List.map_cons, List.map_nil, List.map_append, rune1]; exact ⟨_, _, _, rfl⟩)
    exact key _ _ _ f0 _
  · rintro s ⟨t, hless, out_10, rfl, i_11, v_12, nx, rfl⟩
    try dsimp only at hh
    (repeat (with_reducible first | refine then_n ?_ | refine then_r ?_ | refine then_e ?_ | refine block_n ?_ | refine block_r ?_ | refine exit_here ?_ | refine exit_on rfl ?_ | refine scope_n ?_ | refine scope_r ?_ | refine scope_e ?_))
    first | (refine cut_less hless ?_; try refine cut_awp ?_) | refine frag_less hless ?_
    obtain ⟨h27, hh⟩ := chk_some hh
    refine awp_first fun K kk hK => ?_
    simp only [go_sem, ↓reduceIte, reduceCtorEq, Nat.reduceEqDiff, Nat.reduceAdd, Nat.reduceMul, Nat.reduceSub, Nat.reduceLT, Nat.reduceLeDiff, Nat.reducePow, Nat.reduceBEq, Nat.reduceBNe, Int.reduceNeg, Int.reduceBEq, Int.reduceBNe, Int.reduceAdd, Int.reduceSub, Int.reduceMul, Int.reduceLT, Int.reduceLE, Int.reduceToNat, Int.reduceEq, Int.reduceNe, List.take_length, take_map_len, runesOf_eq, runeBytes_map, an_diptychref2_Quote, nf_diptychref2_Quote, fp_diptychref2_Quote, ty3, ty5, ty9, diptychlaw3_Cell.pv_eq, api_Attr.pv_eq, api_Node.pv_eq, token_Token.pv_eq, diptychref3_Token.pv_eq, pvL, List.map_nil, h27]
    (repeat (refine And.intro ?_ ?_; focus (first | assumption | (try simp only [List.length_append, List.length_cons, List.length_nil] at *; omega))))
    refine hK _ _ fun nx => ?_; clear hK K; try clear kk
    refine awp_ret ?_; (repeat (with_reducible first | refine then_n ?_ | refine then_r ?_ | refine then_e ?_ | refine block_n ?_ | refine block_r ?_ | refine exit_here ?_ | refine exit_on rfl ?_ | refine scope_n ?_ | refine scope_r ?_ | refine scope_e ?_ | refine cut_awp ?_))
    obtain hR := Option.some.inj hh
    subst hR
    refine ret_pure2 ?_ (by rfl)
    simp only [go_sem, ↓reduceIte, reduceCtorEq, Nat.reduceEqDiff, Nat.reduceAdd, Nat.reduceMul, Nat.reduceSub, Nat.reduceLT, Nat.reduceLeDiff, Nat.reducePow, Nat.reduceBEq, Nat.reduceBNe, Int.reduceNeg, Int.reduceBEq, Int.reduceBNe, Int.reduceAdd, Int.reduceSub, Int.reduceMul, Int.reduceLT, Int.reduceLE, Int.reduceToNat, Int.reduceEq, Int.reduceNe, List.take_length, take_map_len, runesOf_eq, runeBytes_map, an_diptychref2_Quote, nf_diptychref2_Quote, fp_diptychref2_Quote, ty3, ty5, ty9, diptychlaw3_Cell.pv_eq, api_Attr.pv_eq, api_Node.pv_eq, token_Token.pv_eq, diptychref3_Token.pv_eq, pvL, List.map_nil, rvsRes, rvRes, cellRes, tupOf, pur2, List.map_cons, List.map_append, List.head?_cons]
    (repeat (first | exact Wk.refl _ | exact WkL.refl _ | exact Wk.nil _ | refine Wk.agg _ _ ?_ | refine Wk.tup _ _ ?_ | refine WkL.cons _ _ _ _ ?_ ?_ | exact WkL.nil))
  · intro i s h; exact h.elim
  · intro s h; exact h.elim

end Go.Proofs.YtlgjbmgmoaphjaaDoor
