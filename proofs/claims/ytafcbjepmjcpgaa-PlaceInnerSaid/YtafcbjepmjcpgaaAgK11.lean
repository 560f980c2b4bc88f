/- What the functions answer, the program answers (11). -/
import Derived.Test.YtafcbjepmjcpgaaAgC
import Derived.Test.YtafcbjepmjcpgaaAgF
import Derived.Test.YtafcbjepmjcpgaaAgK9
namespace Go.Proofs.Ytafcbjepmjcpgaa
set_option linter.unusedSimpArgs false
set_option linter.unusedVariables false
open Go
set_option maxRecDepth 100000

theorem diptychref4_With_grp : ∀ kr : Nat, (∀ (n_1 : api_Node) (path_2 : (List Int)) (m_3 : api_Node) (R : (api_Node × Int)), diptychref4_With_k kr n_1 path_2 m_3 = some R → PC Try.prog 43 [.agg [.str n_1.Kind, .str n_1.Text, .list 1 (n_1.Marks.map PV.str), .list 2 (n_1.Attrs.map api_Attr.pv), .list 5 (n_1.Kids.map api_Node.pv)], .list 1 (path_2.map (PV.int .i64)), .agg [.str m_3.Kind, .str m_3.Text, .list 1 (m_3.Marks.map PV.str), .list 2 (m_3.Attrs.map api_Attr.pv), .list 5 (m_3.Kids.map api_Node.pv)]] (.tup [.agg [.str R.1.Kind, .str R.1.Text, .list 1 (R.1.Marks.map PV.str), .list 2 (R.1.Attrs.map api_Attr.pv), .list 5 (R.1.Kids.map api_Node.pv)], .int .i64 R.2])) := by
  intro kr
  induction kr with
  | zero => exact (by intro n_1 path_2 m_3 R hh; rw [diptychref4_With_k] at hh; cases hh)
  | succ kr ih =>
    have ih_diptychref4_With := ih
    clear ih
    intro n_1 path_2 m_3 R hh
    rw [diptychref4_With_k] at hh
    refine start_diptychref4_With rfl ?_
    refine awp_first fun K kk hK => ?_
    simp only [go_sem, ↓reduceIte, reduceCtorEq, Nat.reduceEqDiff, Nat.reduceAdd, Nat.reduceMul, Nat.reduceSub, Nat.reduceLT, Nat.reduceLeDiff, Nat.reducePow, Nat.reduceBEq, Nat.reduceBNe, Int.reduceNeg, Int.reduceBEq, Int.reduceBNe, Int.reduceAdd, Int.reduceSub, Int.reduceMul, Int.reduceLT, Int.reduceLE, Int.reduceToNat, Int.reduceEq, Int.reduceNe, List.take_length, take_map_len, runesOf_eq, runeBytes_map, an_diptychref4_With, nf_diptychref4_With, fp_diptychref4_With, ty3, ty9, ty47, ty50, ty51, ty52, ty54, ty56, ty90, diptychlaw4_Cell.pv_eq, api_Attr.pv_eq, api_Node.pv_eq, place_Spot.pv_eq, diptychref4_Spot.pv_eq, pvL, List.map_nil]
    refine hK _ _ fun nx => ?_; clear hK K; try clear kk
    obtain ⟨⟨r_4, r_5⟩, h1, hh⟩ := bind_ex hh
    dsimp only at hh
    refine awp_first fun K kk hK => ?_
    simp only [go_sem, ↓reduceIte, reduceCtorEq, Nat.reduceEqDiff, Nat.reduceAdd, Nat.reduceMul, Nat.reduceSub, Nat.reduceLT, Nat.reduceLeDiff, Nat.reducePow, Nat.reduceBEq, Nat.reduceBNe, Int.reduceNeg, Int.reduceBEq, Int.reduceBNe, Int.reduceAdd, Int.reduceSub, Int.reduceMul, Int.reduceLT, Int.reduceLE, Int.reduceToNat, Int.reduceEq, Int.reduceNe, List.take_length, take_map_len, runesOf_eq, runeBytes_map, an_diptychref4_With, nf_diptychref4_With, fp_diptychref4_With, ty3, ty9, ty47, ty50, ty51, ty52, ty54, ty56, ty90, diptychlaw4_Cell.pv_eq, api_Attr.pv_eq, api_Node.pv_eq, place_Spot.pv_eq, diptychref4_Spot.pv_eq, pvL, List.map_nil]
    refine step_call2 (diptychref4_Inner_ok _ _ _ h1) (by simp only [go_sem, ↓reduceIte, reduceCtorEq, Nat.reduceEqDiff, Nat.reduceAdd, Nat.reduceMul, Nat.reduceSub, Nat.reduceLT, Nat.reduceLeDiff, Nat.reducePow, Nat.reduceBEq, Nat.reduceBNe, Int.reduceNeg, Int.reduceBEq, Int.reduceBNe, Int.reduceAdd, Int.reduceSub, Int.reduceMul, Int.reduceLT, Int.reduceLE, Int.reduceToNat, Int.reduceEq, Int.reduceNe, List.take_length, take_map_len, runesOf_eq, runeBytes_map, an_diptychref4_With, nf_diptychref4_With, fp_diptychref4_With, ty3, ty9, ty47, ty50, ty51, ty52, ty54, ty56, ty90, diptychlaw4_Cell.pv_eq, api_Attr.pv_eq, api_Node.pv_eq, place_Spot.pv_eq, diptychref4_Spot.pv_eq, pvL, List.map_nil]; (repeat (first | exact WkL.refl _ | exact Wk.refl _ | exact Wk.nil _ | refine WkL.cons _ _ _ _ ?_ ?_ | exact WkL.nil | refine Wk.agg _ _ ?_ | refine Wk.tup _ _ ?_))) (by rfl) (by rfl) ?_
    simp only [go_sem, ↓reduceIte, reduceCtorEq, Nat.reduceEqDiff, Nat.reduceAdd, Nat.reduceMul, Nat.reduceSub, Nat.reduceLT, Nat.reduceLeDiff, Nat.reducePow, Nat.reduceBEq, Nat.reduceBNe, Int.reduceNeg, Int.reduceBEq, Int.reduceBNe, Int.reduceAdd, Int.reduceSub, Int.reduceMul, Int.reduceLT, Int.reduceLE, Int.reduceToNat, Int.reduceEq, Int.reduceNe, List.take_length, take_map_len, runesOf_eq, runeBytes_map, an_diptychref4_With, nf_diptychref4_With, fp_diptychref4_With, ty3, ty9, ty47, ty50, ty51, ty52, ty54, ty56, ty90, diptychlaw4_Cell.pv_eq, api_Attr.pv_eq, api_Node.pv_eq, place_Spot.pv_eq, diptychref4_Spot.pv_eq, pvL, List.map_nil]
    refine hK _ _ fun nx => ?_; clear hK K; try clear kk
    refine awp_seq ?_
    refine awp_first fun K kk hK => ?_
    simp only [go_sem, ↓reduceIte, reduceCtorEq, Nat.reduceEqDiff, Nat.reduceAdd, Nat.reduceMul, Nat.reduceSub, Nat.reduceLT, Nat.reduceLeDiff, Nat.reducePow, Nat.reduceBEq, Nat.reduceBNe, Int.reduceNeg, Int.reduceBEq, Int.reduceBNe, Int.reduceAdd, Int.reduceSub, Int.reduceMul, Int.reduceLT, Int.reduceLE, Int.reduceToNat, Int.reduceEq, Int.reduceNe, List.take_length, take_map_len, runesOf_eq, runeBytes_map, an_diptychref4_With, nf_diptychref4_With, fp_diptychref4_With, ty3, ty9, ty47, ty50, ty51, ty52, ty54, ty56, ty90, diptychlaw4_Cell.pv_eq, api_Attr.pv_eq, api_Node.pv_eq, place_Spot.pv_eq, diptychref4_Spot.pv_eq, pvL, List.map_nil]
    refine hK _ _ fun nx => ?_; clear hK K; try clear kk
    by_cases h2 : (r_5 != (0 : Int)) = true
    · rw [if_pos h2] at hh
      refine awp_true (by first | exact congrArg PV.bool h2 | rfl) ?_
      refine awp_first fun K kk hK => ?_
      simp only [go_sem, ↓reduceIte, reduceCtorEq, Nat.reduceEqDiff, Nat.reduceAdd, Nat.reduceMul, Nat.reduceSub, Nat.reduceLT, Nat.reduceLeDiff, Nat.reducePow, Nat.reduceBEq, Nat.reduceBNe, Int.reduceNeg, Int.reduceBEq, Int.reduceBNe, Int.reduceAdd, Int.reduceSub, Int.reduceMul, Int.reduceLT, Int.reduceLE, Int.reduceToNat, Int.reduceEq, Int.reduceNe, List.take_length, take_map_len, runesOf_eq, runeBytes_map, an_diptychref4_With, nf_diptychref4_With, fp_diptychref4_With, ty3, ty9, ty47, ty50, ty51, ty52, ty54, ty56, ty90, diptychlaw4_Cell.pv_eq, api_Attr.pv_eq, api_Node.pv_eq, place_Spot.pv_eq, diptychref4_Spot.pv_eq, pvL, List.map_nil]
      refine hK _ _ fun nx => ?_; clear hK K; try clear kk
      refine awp_ret ?_; (repeat (with_reducible first | refine then_n ?_ | refine then_r ?_ | refine then_e ?_ | refine block_n ?_ | refine block_r ?_ | refine exit_here ?_ | refine exit_on rfl ?_ | refine scope_n ?_ | refine scope_r ?_ | refine scope_e ?_ | refine cut_awp ?_))
      obtain hR := Option.some.inj hh
      subst hR
      refine ret_pure2 ?_ (by rfl)
      simp only [go_sem, ↓reduceIte, reduceCtorEq, Nat.reduceEqDiff, Nat.reduceAdd, Nat.reduceMul, Nat.reduceSub, Nat.reduceLT, Nat.reduceLeDiff, Nat.reducePow, Nat.reduceBEq, Nat.reduceBNe, Int.reduceNeg, Int.reduceBEq, Int.reduceBNe, Int.reduceAdd, Int.reduceSub, Int.reduceMul, Int.reduceLT, Int.reduceLE, Int.reduceToNat, Int.reduceEq, Int.reduceNe, List.take_length, take_map_len, runesOf_eq, runeBytes_map, an_diptychref4_With, nf_diptychref4_With, fp_diptychref4_With, ty3, ty9, ty47, ty50, ty51, ty52, ty54, ty56, ty90, diptychlaw4_Cell.pv_eq, api_Attr.pv_eq, api_Node.pv_eq, place_Spot.pv_eq, diptychref4_Spot.pv_eq, pvL, List.map_nil, rvsRes, rvRes, cellRes, tupOf, pur2, List.map_cons, List.map_append, List.head?_cons]
      (repeat (first | exact Wk.refl _ | exact WkL.refl _ | exact Wk.nil _ | refine Wk.agg _ _ ?_ | refine Wk.tup _ _ ?_ | refine WkL.cons _ _ _ _ ?_ ?_ | exact WkL.nil))
    · rw [if_neg h2] at hh
      replace h2 := Bool.eq_false_iff.mpr h2
      refine awp_false (by first | exact congrArg PV.bool h2 | rfl) ?_
      refine awp_skip ?_; (repeat (with_reducible first | refine then_n ?_ | refine then_r ?_ | refine then_e ?_ | refine block_n ?_ | refine block_r ?_ | refine exit_here ?_ | refine exit_on rfl ?_ | refine scope_n ?_ | refine scope_r ?_ | refine scope_e ?_ | refine cut_awp ?_))
      refine awp_seq ?_
      refine awp_first fun K kk hK => ?_
      simp only [go_sem, ↓reduceIte, reduceCtorEq, Nat.reduceEqDiff, Nat.reduceAdd, Nat.reduceMul, Nat.reduceSub, Nat.reduceLT, Nat.reduceLeDiff, Nat.reducePow, Nat.reduceBEq, Nat.reduceBNe, Int.reduceNeg, Int.reduceBEq, Int.reduceBNe, Int.reduceAdd, Int.reduceSub, Int.reduceMul, Int.reduceLT, Int.reduceLE, Int.reduceToNat, Int.reduceEq, Int.reduceNe, List.take_length, take_map_len, runesOf_eq, runeBytes_map, an_diptychref4_With, nf_diptychref4_With, fp_diptychref4_With, ty3, ty9, ty47, ty50, ty51, ty52, ty54, ty56, ty90, diptychlaw4_Cell.pv_eq, api_Attr.pv_eq, api_Node.pv_eq, place_Spot.pv_eq, diptychref4_Spot.pv_eq, pvL, List.map_nil]
      refine hK _ _ fun nx => ?_; clear hK K; try clear kk
      by_cases h3 : ((path_2.length : Int) == (0 : Int)) = true
      · rw [if_pos h3] at hh
        refine awp_true (by first | exact congrArg PV.bool h3 | rfl) ?_
        refine awp_first fun K kk hK => ?_
        simp only [go_sem, ↓reduceIte, reduceCtorEq, Nat.reduceEqDiff, Nat.reduceAdd, Nat.reduceMul, Nat.reduceSub, Nat.reduceLT, Nat.reduceLeDiff, Nat.reducePow, Nat.reduceBEq, Nat.reduceBNe, Int.reduceNeg, Int.reduceBEq, Int.reduceBNe, Int.reduceAdd, Int.reduceSub, Int.reduceMul, Int.reduceLT, Int.reduceLE, Int.reduceToNat, Int.reduceEq, Int.reduceNe, List.take_length, take_map_len, runesOf_eq, runeBytes_map, an_diptychref4_With, nf_diptychref4_With, fp_diptychref4_With, ty3, ty9, ty47, ty50, ty51, ty52, ty54, ty56, ty90, diptychlaw4_Cell.pv_eq, api_Attr.pv_eq, api_Node.pv_eq, place_Spot.pv_eq, diptychref4_Spot.pv_eq, pvL, List.map_nil]
        refine hK _ _ fun nx => ?_; clear hK K; try clear kk
        refine awp_ret ?_; (repeat (with_reducible first | refine then_n ?_ | refine then_r ?_ | refine then_e ?_ | refine block_n ?_ | refine block_r ?_ | refine exit_here ?_ | refine exit_on rfl ?_ | refine scope_n ?_ | refine scope_r ?_ | refine scope_e ?_ | refine cut_awp ?_))
        obtain hR := Option.some.inj hh
        subst hR
        refine ret_pure2 ?_ (by rfl)
        simp only [go_sem, ↓reduceIte, reduceCtorEq, Nat.reduceEqDiff, Nat.reduceAdd, Nat.reduceMul, Nat.reduceSub, Nat.reduceLT, Nat.reduceLeDiff, Nat.reducePow, Nat.reduceBEq, Nat.reduceBNe, Int.reduceNeg, Int.reduceBEq, Int.reduceBNe, Int.reduceAdd, Int.reduceSub, Int.reduceMul, Int.reduceLT, Int.reduceLE, Int.reduceToNat, Int.reduceEq, Int.reduceNe, List.take_length, take_map_len, runesOf_eq, runeBytes_map, an_diptychref4_With, nf_diptychref4_With, fp_diptychref4_With, ty3, ty9, ty47, ty50, ty51, ty52, ty54, ty56, ty90, diptychlaw4_Cell.pv_eq, api_Attr.pv_eq, api_Node.pv_eq, place_Spot.pv_eq, diptychref4_Spot.pv_eq, pvL, List.map_nil, rvsRes, rvRes, cellRes, tupOf, pur2, List.map_cons, List.map_append, List.head?_cons]
        (repeat (first | exact Wk.refl _ | exact WkL.refl _ | exact Wk.nil _ | refine Wk.agg _ _ ?_ | refine Wk.tup _ _ ?_ | refine WkL.cons _ _ _ _ ?_ ?_ | exact WkL.nil))
      · rw [if_neg h3] at hh
        replace h3 := Bool.eq_false_iff.mpr h3
        refine awp_false (by first | exact congrArg PV.bool h3 | rfl) ?_
        refine awp_skip ?_; (repeat (with_reducible first | refine then_n ?_ | refine then_r ?_ | refine then_e ?_ | refine block_n ?_ | refine block_r ?_ | refine exit_here ?_ | refine exit_on rfl ?_ | refine scope_n ?_ | refine scope_r ?_ | refine scope_e ?_ | refine cut_awp ?_))
        obtain ⟨x_6, h4, hh⟩ := bind_ex hh
        obtain ⟨h4a, h4b, h4c⟩ := rd_some h4
        have h4d := rd_get (f := (PV.int .i64)) h4c
        have h4f := rd_more (f := (PV.int .i64)) h4c
        try simp only [Int.toNat_natCast, Int.reduceToNat] at h4d h4f
        obtain ⟨x_7, h5, hh⟩ := bind_ex hh
        obtain ⟨h5a, h5b, h5c⟩ := rd_some h5
        have h5d := rd_get (f := api_Node.pv) h5c
        have h5f := rd_more (f := api_Node.pv) h5c
        try simp only [Int.toNat_natCast, Int.reduceToNat] at h5d h5f
        obtain ⟨s_8, h6, hh⟩ := bind_ex hh
        obtain ⟨h6a, h6c⟩ := sl_some h6
        have h6g := sl_le h6a
        have h6d := sl_map1 (f := (PV.int .i64)) h6c
        try simp only [Int.toNat_natCast, Int.reduceToNat, List.map_cons, List.map_nil, diptychlaw4_Cell.pv_eq, api_Attr.pv_eq, api_Node.pv_eq, place_Spot.pv_eq, diptychref4_Spot.pv_eq, pvL] at h6d
        obtain ⟨⟨r_9, r_10⟩, h7, hh⟩ := bind_ex hh
        dsimp only at hh
        refine awp_first fun K kk hK => ?_
        simp only [go_sem, ↓reduceIte, reduceCtorEq, Nat.reduceEqDiff, Nat.reduceAdd, Nat.reduceMul, Nat.reduceSub, Nat.reduceLT, Nat.reduceLeDiff, Nat.reducePow, Nat.reduceBEq, Nat.reduceBNe, Int.reduceNeg, Int.reduceBEq, Int.reduceBNe, Int.reduceAdd, Int.reduceSub, Int.reduceMul, Int.reduceLT, Int.reduceLE, Int.reduceToNat, Int.reduceEq, Int.reduceNe, List.take_length, take_map_len, runesOf_eq, runeBytes_map, an_diptychref4_With, nf_diptychref4_With, fp_diptychref4_With, ty3, ty9, ty47, ty50, ty51, ty52, ty54, ty56, ty90, diptychlaw4_Cell.pv_eq, api_Attr.pv_eq, api_Node.pv_eq, place_Spot.pv_eq, diptychref4_Spot.pv_eq, pvL, List.map_nil, h4a, h4b, h4d, h4f.1, h4f.2, h5a, h5b, h5d, h5f.1, h5f.2, h6a.1, h6a.2.1, h6a.2.2, h6d, h6g]
        refine step_call2 (ih_diptychref4_With _ _ _ _ h7) (by simp only [go_sem, ↓reduceIte, reduceCtorEq, Nat.reduceEqDiff, Nat.reduceAdd, Nat.reduceMul, Nat.reduceSub, Nat.reduceLT, Nat.reduceLeDiff, Nat.reducePow, Nat.reduceBEq, Nat.reduceBNe, Int.reduceNeg, Int.reduceBEq, Int.reduceBNe, Int.reduceAdd, Int.reduceSub, Int.reduceMul, Int.reduceLT, Int.reduceLE, Int.reduceToNat, Int.reduceEq, Int.reduceNe, List.take_length, take_map_len, runesOf_eq, runeBytes_map, an_diptychref4_With, nf_diptychref4_With, fp_diptychref4_With, ty3, ty9, ty47, ty50, ty51, ty52, ty54, ty56, ty90, diptychlaw4_Cell.pv_eq, api_Attr.pv_eq, api_Node.pv_eq, place_Spot.pv_eq, diptychref4_Spot.pv_eq, pvL, List.map_nil, h4a, h4b, h4d, h4f.1, h4f.2, h5a, h5b, h5d, h5f.1, h5f.2, h6a.1, h6a.2.1, h6a.2.2, h6d, h6g]; (repeat (first | exact WkL.refl _ | exact Wk.refl _ | exact Wk.nil _ | refine WkL.cons _ _ _ _ ?_ ?_ | exact WkL.nil | refine Wk.agg _ _ ?_ | refine Wk.tup _ _ ?_))) (by rfl) (by rfl) ?_
        simp only [go_sem, ↓reduceIte, reduceCtorEq, Nat.reduceEqDiff, Nat.reduceAdd, Nat.reduceMul, Nat.reduceSub, Nat.reduceLT, Nat.reduceLeDiff, Nat.reducePow, Nat.reduceBEq, Nat.reduceBNe, Int.reduceNeg, Int.reduceBEq, Int.reduceBNe, Int.reduceAdd, Int.reduceSub, Int.reduceMul, Int.reduceLT, Int.reduceLE, Int.reduceToNat, Int.reduceEq, Int.reduceNe, List.take_length, take_map_len, runesOf_eq, runeBytes_map, an_diptychref4_With, nf_diptychref4_With, fp_diptychref4_With, ty3, ty9, ty47, ty50, ty51, ty52, ty54, ty56, ty90, diptychlaw4_Cell.pv_eq, api_Attr.pv_eq, api_Node.pv_eq, place_Spot.pv_eq, diptychref4_Spot.pv_eq, pvL, List.map_nil, h4a, h4b, h4d, h4f.1, h4f.2, h5a, h5b, h5d, h5f.1, h5f.2, h6a.1, h6a.2.1, h6a.2.2, h6d, h6g]
        refine hK _ _ fun nx => ?_; clear hK K; try clear kk
        obtain ⟨s_11, h8, hh⟩ := bind_ex hh
        obtain ⟨h8a, h8c⟩ := sl_some h8
        have h8g := sl_le h8a
        have h8d := sl_map0 (f := api_Node.pv) h8c
        try simp only [Int.toNat_natCast, Int.reduceToNat, List.map_cons, List.map_nil, diptychlaw4_Cell.pv_eq, api_Attr.pv_eq, api_Node.pv_eq, place_Spot.pv_eq, diptychref4_Spot.pv_eq, pvL] at h8d
        obtain ⟨l_12, h9, hh⟩ := bind_ex hh
        obtain ⟨h9a, h9c⟩ := app_some h9
        have h9d := app_map (f := api_Node.pv) h9c
        have h9e := app_len h9c
        try simp only [List.length_cons, List.length_nil, Nat.zero_add, Nat.reduceAdd] at h9a h9e
        try simp only [h9e] at h9a
        try simp only [List.map_cons, List.map_nil, List.nil_append, List.append_nil, List.cons_append, List.singleton_append, diptychlaw4_Cell.pv_eq, api_Attr.pv_eq, api_Node.pv_eq, place_Spot.pv_eq, diptychref4_Spot.pv_eq, pvL] at h9d
        obtain ⟨l_13, h10, hh⟩ := bind_ex hh
        obtain ⟨h10a, h10c⟩ := app_some h10
        have h10d := app_map (f := api_Node.pv) h10c
        have h10e := app_len h10c
        try simp only [List.length_cons, List.length_nil, Nat.zero_add, Nat.reduceAdd] at h10a h10e
        try simp only [h10e] at h10a
        try simp only [List.map_cons, List.map_nil, List.nil_append, List.append_nil, List.cons_append, List.singleton_append, diptychlaw4_Cell.pv_eq, api_Attr.pv_eq, api_Node.pv_eq, place_Spot.pv_eq, diptychref4_Spot.pv_eq, pvL] at h10d
        obtain ⟨s_14, h11, hh⟩ := bind_ex hh
        obtain ⟨h11a, h11c⟩ := sl_some h11
        have h11g := sl_le h11a
        have h11d := sl_map1 (f := api_Node.pv) h11c
        try simp only [Int.toNat_natCast, Int.reduceToNat, List.map_cons, List.map_nil, diptychlaw4_Cell.pv_eq, api_Attr.pv_eq, api_Node.pv_eq, place_Spot.pv_eq, diptychref4_Spot.pv_eq, pvL] at h11d
        obtain ⟨l_15, h12, hh⟩ := bind_ex hh
        obtain ⟨h12a, h12c⟩ := app_some h12
        have h12d := app_map (f := api_Node.pv) h12c
        have h12e := app_len h12c
        try simp only [List.length_cons, List.length_nil, Nat.zero_add, Nat.reduceAdd] at h12a h12e
        try simp only [h12e] at h12a
        try simp only [List.map_cons, List.map_nil, List.nil_append, List.append_nil, List.cons_append, List.singleton_append, diptychlaw4_Cell.pv_eq, api_Attr.pv_eq, api_Node.pv_eq, place_Spot.pv_eq, diptychref4_Spot.pv_eq, pvL] at h12d
        refine awp_first fun K kk hK => ?_
        simp only [go_sem, ↓reduceIte, reduceCtorEq, Nat.reduceEqDiff, Nat.reduceAdd, Nat.reduceMul, Nat.reduceSub, Nat.reduceLT, Nat.reduceLeDiff, Nat.reducePow, Nat.reduceBEq, Nat.reduceBNe, Int.reduceNeg, Int.reduceBEq, Int.reduceBNe, Int.reduceAdd, Int.reduceSub, Int.reduceMul, Int.reduceLT, Int.reduceLE, Int.reduceToNat, Int.reduceEq, Int.reduceNe, List.take_length, take_map_len, runesOf_eq, runeBytes_map, an_diptychref4_With, nf_diptychref4_With, fp_diptychref4_With, ty3, ty9, ty47, ty50, ty51, ty52, ty54, ty56, ty90, diptychlaw4_Cell.pv_eq, api_Attr.pv_eq, api_Node.pv_eq, place_Spot.pv_eq, diptychref4_Spot.pv_eq, pvL, List.map_nil, h4a, h4b, h4d, h4f.1, h4f.2, h8a.1, h8a.2.1, h8a.2.2, h8d, h8g, h9a, h9d, h9e, h10a, h10d, h10e, h4a, h4b, h4d, h4f.1, h4f.2, h11a.1, h11a.2.1, h11a.2.2, h11d, h11g, h12a, h12d, h12e]
        refine hK _ _ fun nx => ?_; clear hK K; try clear kk
        refine awp_first fun K kk hK => ?_
        simp only [go_sem, ↓reduceIte, reduceCtorEq, Nat.reduceEqDiff, Nat.reduceAdd, Nat.reduceMul, Nat.reduceSub, Nat.reduceLT, Nat.reduceLeDiff, Nat.reducePow, Nat.reduceBEq, Nat.reduceBNe, Int.reduceNeg, Int.reduceBEq, Int.reduceBNe, Int.reduceAdd, Int.reduceSub, Int.reduceMul, Int.reduceLT, Int.reduceLE, Int.reduceToNat, Int.reduceEq, Int.reduceNe, List.take_length, take_map_len, runesOf_eq, runeBytes_map, an_diptychref4_With, nf_diptychref4_With, fp_diptychref4_With, ty3, ty9, ty47, ty50, ty51, ty52, ty54, ty56, ty90, diptychlaw4_Cell.pv_eq, api_Attr.pv_eq, api_Node.pv_eq, place_Spot.pv_eq, diptychref4_Spot.pv_eq, pvL, List.map_nil]
        refine hK _ _ fun nx => ?_; clear hK K; try clear kk
        refine awp_ret ?_; (repeat (with_reducible first | refine then_n ?_ | refine then_r ?_ | refine then_e ?_ | refine block_n ?_ | refine block_r ?_ | refine exit_here ?_ | refine exit_on rfl ?_ | refine scope_n ?_ | refine scope_r ?_ | refine scope_e ?_ | refine cut_awp ?_))
        obtain hR := Option.some.inj hh
        subst hR
        refine ret_pure2 ?_ (by rfl)
        simp only [go_sem, ↓reduceIte, reduceCtorEq, Nat.reduceEqDiff, Nat.reduceAdd, Nat.reduceMul, Nat.reduceSub, Nat.reduceLT, Nat.reduceLeDiff, Nat.reducePow, Nat.reduceBEq, Nat.reduceBNe, Int.reduceNeg, Int.reduceBEq, Int.reduceBNe, Int.reduceAdd, Int.reduceSub, Int.reduceMul, Int.reduceLT, Int.reduceLE, Int.reduceToNat, Int.reduceEq, Int.reduceNe, List.take_length, take_map_len, runesOf_eq, runeBytes_map, an_diptychref4_With, nf_diptychref4_With, fp_diptychref4_With, ty3, ty9, ty47, ty50, ty51, ty52, ty54, ty56, ty90, diptychlaw4_Cell.pv_eq, api_Attr.pv_eq, api_Node.pv_eq, place_Spot.pv_eq, diptychref4_Spot.pv_eq, pvL, List.map_nil, rvsRes, rvRes, cellRes, tupOf, pur2, List.map_cons, List.map_append, List.head?_cons]
        (repeat (first | exact Wk.refl _ | exact WkL.refl _ | exact Wk.nil _ | refine Wk.agg _ _ ?_ | refine Wk.tup _ _ ?_ | refine WkL.cons _ _ _ _ ?_ ?_ | exact WkL.nil))
theorem diptychref4_With_ok (n_1 : api_Node) (path_2 : (List Int)) (m_3 : api_Node) (R : (api_Node × Int)) (hh : diptychref4_With n_1 path_2 m_3 = some R) : PC Try.prog 43 [.agg [.str n_1.Kind, .str n_1.Text, .list 1 (n_1.Marks.map PV.str), .list 2 (n_1.Attrs.map api_Attr.pv), .list 5 (n_1.Kids.map api_Node.pv)], .list 1 (path_2.map (PV.int .i64)), .agg [.str m_3.Kind, .str m_3.Text, .list 1 (m_3.Marks.map PV.str), .list 2 (m_3.Attrs.map api_Attr.pv), .list 5 (m_3.Kids.map api_Node.pv)]] (.tup [.agg [.str R.1.Kind, .str R.1.Text, .list 1 (R.1.Marks.map PV.str), .list 2 (R.1.Attrs.map api_Attr.pv), .list 5 (R.1.Kids.map api_Node.pv)], .int .i64 R.2]) := by
  rw [diptychref4_With] at hh
  obtain ⟨kr, hh⟩ := lim_some hh
  exact (diptychref4_With_grp kr) _ _ _ _ hh

end Go.Proofs.Ytafcbjepmjcpgaa
