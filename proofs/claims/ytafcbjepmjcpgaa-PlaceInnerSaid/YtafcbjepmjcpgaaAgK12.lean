/- What the functions answer, the program answers (12). -/
import Derived.Test.YtafcbjepmjcpgaaAgC
import Derived.Test.YtafcbjepmjcpgaaAgF
import Derived.Test.YtafcbjepmjcpgaaAgK2
namespace Go.Proofs.Ytafcbjepmjcpgaa
set_option linter.unusedSimpArgs false
set_option linter.unusedVariables false
open Go
set_option maxRecDepth 100000

theorem diptychref1_SameAll_grp : ∀ kr : Nat, (∀ (a_1 : (List api_Node)) (b_2 : (List api_Node)) (R : Bool), diptychref1_SameAll_k kr a_1 b_2 = some R → PC Try.prog 57 [.list 5 (a_1.map api_Node.pv), .list 5 (b_2.map api_Node.pv)] (.bool R)) ∧
    (∀ (a_1 : api_Node) (b_2 : api_Node) (R : Bool), diptychref1_Same_k kr a_1 b_2 = some R → PC Try.prog 44 [.agg [.str a_1.Kind, .str a_1.Text, .list 1 (a_1.Marks.map PV.str), .list 2 (a_1.Attrs.map api_Attr.pv), .list 5 (a_1.Kids.map api_Node.pv)], .agg [.str b_2.Kind, .str b_2.Text, .list 1 (b_2.Marks.map PV.str), .list 2 (b_2.Attrs.map api_Attr.pv), .list 5 (b_2.Kids.map api_Node.pv)]] (.bool R)) := by
  intro kr
  induction kr with
  | zero => exact ⟨(by intro a_1 b_2 R hh; rw [diptychref1_SameAll_k] at hh; cases hh), (by intro a_1 b_2 R hh; rw [diptychref1_Same_k] at hh; cases hh)⟩
  | succ kr ih =>
    obtain ⟨ih_diptychref1_SameAll, ih_diptychref1_Same⟩ := ih
    refine ⟨?_, ?_⟩
    · intro a_1 b_2 R hh
      rw [diptychref1_SameAll_k] at hh
      refine start_diptychref1_SameAll rfl ?_
      refine awp_first fun K kk hK => ?_
      simp only [go_sem, ↓reduceIte, reduceCtorEq, Nat.reduceEqDiff, Nat.reduceAdd, Nat.reduceMul, Nat.reduceSub, Nat.reduceLT, Nat.reduceLeDiff, Nat.reducePow, Nat.reduceBEq, Nat.reduceBNe, Int.reduceNeg, Int.reduceBEq, Int.reduceBNe, Int.reduceAdd, Int.reduceSub, Int.reduceMul, Int.reduceLT, Int.reduceLE, Int.reduceToNat, Int.reduceEq, Int.reduceNe, List.take_length, take_map_len, runesOf_eq, runeBytes_map, an_diptychref1_SameAll, nf_diptychref1_SameAll, fp_diptychref1_SameAll, ty3, ty4, ty9, ty50, ty51, ty52, ty54, ty90, diptychlaw4_Cell.pv_eq, api_Attr.pv_eq, api_Node.pv_eq, place_Spot.pv_eq, diptychref4_Spot.pv_eq, pvL, List.map_nil]
      refine hK _ _ fun nx => ?_; clear hK K; try clear kk
      refine awp_seq ?_
      refine awp_first fun K kk hK => ?_
      simp only [go_sem, ↓reduceIte, reduceCtorEq, Nat.reduceEqDiff, Nat.reduceAdd, Nat.reduceMul, Nat.reduceSub, Nat.reduceLT, Nat.reduceLeDiff, Nat.reducePow, Nat.reduceBEq, Nat.reduceBNe, Int.reduceNeg, Int.reduceBEq, Int.reduceBNe, Int.reduceAdd, Int.reduceSub, Int.reduceMul, Int.reduceLT, Int.reduceLE, Int.reduceToNat, Int.reduceEq, Int.reduceNe, List.take_length, take_map_len, runesOf_eq, runeBytes_map, an_diptychref1_SameAll, nf_diptychref1_SameAll, fp_diptychref1_SameAll, ty3, ty4, ty9, ty50, ty51, ty52, ty54, ty90, diptychlaw4_Cell.pv_eq, api_Attr.pv_eq, api_Node.pv_eq, place_Spot.pv_eq, diptychref4_Spot.pv_eq, pvL, List.map_nil]
      refine hK _ _ fun nx => ?_; clear hK K; try clear kk
      by_cases h1 : ((a_1.length : Int) != (b_2.length : Int)) = true
      · rw [if_pos h1] at hh
        refine awp_true (by first | exact congrArg PV.bool h1 | rfl) ?_
        refine awp_first fun K kk hK => ?_
        simp only [go_sem, ↓reduceIte, reduceCtorEq, Nat.reduceEqDiff, Nat.reduceAdd, Nat.reduceMul, Nat.reduceSub, Nat.reduceLT, Nat.reduceLeDiff, Nat.reducePow, Nat.reduceBEq, Nat.reduceBNe, Int.reduceNeg, Int.reduceBEq, Int.reduceBNe, Int.reduceAdd, Int.reduceSub, Int.reduceMul, Int.reduceLT, Int.reduceLE, Int.reduceToNat, Int.reduceEq, Int.reduceNe, List.take_length, take_map_len, runesOf_eq, runeBytes_map, an_diptychref1_SameAll, nf_diptychref1_SameAll, fp_diptychref1_SameAll, ty3, ty4, ty9, ty50, ty51, ty52, ty54, ty90, diptychlaw4_Cell.pv_eq, api_Attr.pv_eq, api_Node.pv_eq, place_Spot.pv_eq, diptychref4_Spot.pv_eq, pvL, List.map_nil]
        refine hK _ _ fun nx => ?_; clear hK K; try clear kk
        refine awp_ret ?_; (repeat (with_reducible first | refine then_n ?_ | refine then_r ?_ | refine then_e ?_ | refine block_n ?_ | refine block_r ?_ | refine exit_here ?_ | refine exit_on rfl ?_ | refine scope_n ?_ | refine scope_r ?_ | refine scope_e ?_ | refine cut_awp ?_))
        obtain hR := Option.some.inj hh
        subst hR
        refine ret_pure2 ?_ (by rfl)
        simp only [go_sem, ↓reduceIte, reduceCtorEq, Nat.reduceEqDiff, Nat.reduceAdd, Nat.reduceMul, Nat.reduceSub, Nat.reduceLT, Nat.reduceLeDiff, Nat.reducePow, Nat.reduceBEq, Nat.reduceBNe, Int.reduceNeg, Int.reduceBEq, Int.reduceBNe, Int.reduceAdd, Int.reduceSub, Int.reduceMul, Int.reduceLT, Int.reduceLE, Int.reduceToNat, Int.reduceEq, Int.reduceNe, List.take_length, take_map_len, runesOf_eq, runeBytes_map, an_diptychref1_SameAll, nf_diptychref1_SameAll, fp_diptychref1_SameAll, ty3, ty4, ty9, ty50, ty51, ty52, ty54, ty90, diptychlaw4_Cell.pv_eq, api_Attr.pv_eq, api_Node.pv_eq, place_Spot.pv_eq, diptychref4_Spot.pv_eq, pvL, List.map_nil, rvsRes, rvRes, cellRes, tupOf, pur2, List.map_cons, List.map_append, List.head?_cons]
        (repeat (first | exact Wk.refl _ | exact WkL.refl _ | exact Wk.nil _ | refine Wk.agg _ _ ?_ | refine Wk.tup _ _ ?_ | refine WkL.cons _ _ _ _ ?_ ?_ | exact WkL.nil))
      · rw [if_neg h1] at hh
        replace h1 := Bool.eq_false_iff.mpr h1
        refine awp_false (by first | exact congrArg PV.bool h1 | rfl) ?_
        refine awp_skip ?_; (repeat (with_reducible first | refine then_n ?_ | refine then_r ?_ | refine then_e ?_ | refine block_n ?_ | refine block_r ?_ | refine exit_here ?_ | refine exit_on rfl ?_ | refine scope_n ?_ | refine scope_r ?_ | refine scope_e ?_ | refine cut_awp ?_))
        refine awp_seq ?_
        refine awp_first fun K kk hK => ?_
        simp only [go_sem, ↓reduceIte, reduceCtorEq, Nat.reduceEqDiff, Nat.reduceAdd, Nat.reduceMul, Nat.reduceSub, Nat.reduceLT, Nat.reduceLeDiff, Nat.reducePow, Nat.reduceBEq, Nat.reduceBNe, Int.reduceNeg, Int.reduceBEq, Int.reduceBNe, Int.reduceAdd, Int.reduceSub, Int.reduceMul, Int.reduceLT, Int.reduceLE, Int.reduceToNat, Int.reduceEq, Int.reduceNe, List.take_length, take_map_len, runesOf_eq, runeBytes_map, an_diptychref1_SameAll, nf_diptychref1_SameAll, fp_diptychref1_SameAll, ty3, ty4, ty9, ty50, ty51, ty52, ty54, ty90, diptychlaw4_Cell.pv_eq, api_Attr.pv_eq, api_Node.pv_eq, place_Spot.pv_eq, diptychref4_Spot.pv_eq, pvL, List.map_nil]
        refine hK _ _ fun nx => ?_; clear hK K; try clear kk
        obtain ⟨e0, f0, hh⟩ := bind_ex hh
        obtain ⟨hlen0, f0⟩ := chk_some f0
        refine awp_fragE (CutTo (fun s => .inr () = e0 ∧ ∃ (i_14 : Int) (v_15 : Bool) (nx : Nat), s = ⟨[(0, .list 5 (a_1.map api_Node.pv)), (1, .list 5 (b_2.map api_Node.pv)), (5, .int .i64 i_14), (14, .bool v_15)], [], nx⟩))
          (fun i s => False)
          (fun s => ∃ res_13, .inl res_13 = e0 ∧ bodyR Try.prog [.tmp 4] (.bool res_13) [] .ret s) ?_ ?_ ?_ ?_
        · refine awp_block ?_
          refine awp_loopJ fun I hI => ?_
          have key : ∀ (suf pre : List api_Node) (i_6 : Int), a_1 = pre ++ suf → i_6 = (pre.length : Int) → diptychref1_SameAll_l0 b_2 (diptychref1_Same_k kr) suf i_6 = some e0 → ∀ (nx : Nat), I ⟨[(0, .list 5 (a_1.map api_Node.pv)), (1, .list 5 (b_2.map api_Node.pv)), (5, .int .i64 i_6)], [], nx⟩ := by
            intro suf
            induction suf with
            | nil =>
              intro pre i_6 hsplit hidx hh nx
              rw [diptychref1_SameAll_l0] at hh
              refine hI _ ?_
              have h12 := walk_nil hsplit hidx
              refine awp_seq ?_
              refine awp_first fun K kk hK => ?_
              simp only [go_sem, ↓reduceIte, reduceCtorEq, Nat.reduceEqDiff, Nat.reduceAdd, Nat.reduceMul, Nat.reduceSub, Nat.reduceLT, Nat.reduceLeDiff, Nat.reducePow, Nat.reduceBEq, Nat.reduceBNe, Int.reduceNeg, Int.reduceBEq, Int.reduceBNe, Int.reduceAdd, Int.reduceSub, Int.reduceMul, Int.reduceLT, Int.reduceLE, Int.reduceToNat, Int.reduceEq, Int.reduceNe, List.take_length, take_map_len, runesOf_eq, runeBytes_map, an_diptychref1_SameAll, nf_diptychref1_SameAll, fp_diptychref1_SameAll, ty3, ty4, ty9, ty50, ty51, ty52, ty54, ty90, diptychlaw4_Cell.pv_eq, api_Attr.pv_eq, api_Node.pv_eq, place_Spot.pv_eq, diptychref4_Spot.pv_eq, pvL, List.map_nil]
              refine hK _ _ fun nx => ?_; clear hK K; try clear kk
              refine awp_false (by first | exact congrArg PV.bool h12 | rfl) ?_
              refine awp_exit ?_; (repeat (with_reducible first | refine then_n ?_ | refine then_r ?_ | refine then_e ?_ | refine block_n ?_ | refine block_r ?_ | refine exit_here ?_ | refine exit_on rfl ?_ | refine scope_n ?_ | refine scope_r ?_ | refine scope_e ?_ | refine cut_awp ?_))
              refine fragN ?_
              refine cut_id ?_
              refine ⟨(Option.some.inj hh), ?_⟩
              first | exact ⟨_, _, _, rfl⟩ | (simp only [diptychlaw4_Cell.pv_eq, api_Attr.pv_eq, api_Node.pv_eq, place_Spot.pv_eq, diptychref4_Spot.pv_eq, pvL, List.map_cons, List.map_nil, List.map_append]; exact ⟨_, _, _, rfl⟩)
            | cons y_10 suf ih =>
              intro pre i_6 hsplit hidx hh nx
              rw [diptychref1_SameAll_l0] at hh
              refine hI _ ?_
              obtain ⟨hl0a, hl0b, hl0d, hl0w, h12⟩ := walk_cons (f := api_Node.pv) hsplit hidx hlen0
              refine awp_seq ?_
              refine awp_first fun K kk hK => ?_
              simp only [go_sem, ↓reduceIte, reduceCtorEq, Nat.reduceEqDiff, Nat.reduceAdd, Nat.reduceMul, Nat.reduceSub, Nat.reduceLT, Nat.reduceLeDiff, Nat.reducePow, Nat.reduceBEq, Nat.reduceBNe, Int.reduceNeg, Int.reduceBEq, Int.reduceBNe, Int.reduceAdd, Int.reduceSub, Int.reduceMul, Int.reduceLT, Int.reduceLE, Int.reduceToNat, Int.reduceEq, Int.reduceNe, List.take_length, take_map_len, runesOf_eq, runeBytes_map, an_diptychref1_SameAll, nf_diptychref1_SameAll, fp_diptychref1_SameAll, ty3, ty4, ty9, ty50, ty51, ty52, ty54, ty90, diptychlaw4_Cell.pv_eq, api_Attr.pv_eq, api_Node.pv_eq, place_Spot.pv_eq, diptychref4_Spot.pv_eq, pvL, List.map_nil]
              refine hK _ _ fun nx => ?_; clear hK K; try clear kk
              refine awp_true (by first | exact congrArg PV.bool h12 | rfl) ?_
              refine awp_skip ?_; (repeat (with_reducible first | refine then_n ?_ | refine then_r ?_ | refine then_e ?_ | refine block_n ?_ | refine block_r ?_ | refine exit_here ?_ | refine exit_on rfl ?_ | refine scope_n ?_ | refine scope_r ?_ | refine scope_e ?_ | refine cut_awp ?_))
              refine awp_seq ?_
              refine awp_block ?_
              obtain ⟨x_11, h13, hh⟩ := bind_ex hh
              obtain ⟨h13a, h13b, h13c⟩ := rd_some h13
              have h13d := rd_get (f := api_Node.pv) h13c
              have h13f := rd_more (f := api_Node.pv) h13c
              try simp only [Int.toNat_natCast, Int.reduceToNat] at h13d h13f
              obtain ⟨same_12, h14, hh⟩ := bind_ex hh
              refine awp_first fun K kk hK => ?_
              simp only [go_sem, ↓reduceIte, reduceCtorEq, Nat.reduceEqDiff, Nat.reduceAdd, Nat.reduceMul, Nat.reduceSub, Nat.reduceLT, Nat.reduceLeDiff, Nat.reducePow, Nat.reduceBEq, Nat.reduceBNe, Int.reduceNeg, Int.reduceBEq, Int.reduceBNe, Int.reduceAdd, Int.reduceSub, Int.reduceMul, Int.reduceLT, Int.reduceLE, Int.reduceToNat, Int.reduceEq, Int.reduceNe, List.take_length, take_map_len, runesOf_eq, runeBytes_map, an_diptychref1_SameAll, nf_diptychref1_SameAll, fp_diptychref1_SameAll, ty3, ty4, ty9, ty50, ty51, ty52, ty54, ty90, diptychlaw4_Cell.pv_eq, api_Attr.pv_eq, api_Node.pv_eq, place_Spot.pv_eq, diptychref4_Spot.pv_eq, pvL, List.map_nil, h13a, h13b, h13d, h13f.1, h13f.2, hl0a, hl0b, hl0d, hl0w]
              refine step_call2 (ih_diptychref1_Same _ _ _ h14) (by simp only [go_sem, ↓reduceIte, reduceCtorEq, Nat.reduceEqDiff, Nat.reduceAdd, Nat.reduceMul, Nat.reduceSub, Nat.reduceLT, Nat.reduceLeDiff, Nat.reducePow, Nat.reduceBEq, Nat.reduceBNe, Int.reduceNeg, Int.reduceBEq, Int.reduceBNe, Int.reduceAdd, Int.reduceSub, Int.reduceMul, Int.reduceLT, Int.reduceLE, Int.reduceToNat, Int.reduceEq, Int.reduceNe, List.take_length, take_map_len, runesOf_eq, runeBytes_map, an_diptychref1_SameAll, nf_diptychref1_SameAll, fp_diptychref1_SameAll, ty3, ty4, ty9, ty50, ty51, ty52, ty54, ty90, diptychlaw4_Cell.pv_eq, api_Attr.pv_eq, api_Node.pv_eq, place_Spot.pv_eq, diptychref4_Spot.pv_eq, pvL, List.map_nil, h13a, h13b, h13d, h13f.1, h13f.2, hl0a, hl0b, hl0d, hl0w]; (repeat (first | exact WkL.refl _ | exact Wk.refl _ | exact Wk.nil _ | refine WkL.cons _ _ _ _ ?_ ?_ | exact WkL.nil | refine Wk.agg _ _ ?_ | refine Wk.tup _ _ ?_))) (by rfl) (by rfl) ?_
              simp only [go_sem, ↓reduceIte, reduceCtorEq, Nat.reduceEqDiff, Nat.reduceAdd, Nat.reduceMul, Nat.reduceSub, Nat.reduceLT, Nat.reduceLeDiff, Nat.reducePow, Nat.reduceBEq, Nat.reduceBNe, Int.reduceNeg, Int.reduceBEq, Int.reduceBNe, Int.reduceAdd, Int.reduceSub, Int.reduceMul, Int.reduceLT, Int.reduceLE, Int.reduceToNat, Int.reduceEq, Int.reduceNe, List.take_length, take_map_len, runesOf_eq, runeBytes_map, an_diptychref1_SameAll, nf_diptychref1_SameAll, fp_diptychref1_SameAll, ty3, ty4, ty9, ty50, ty51, ty52, ty54, ty90, diptychlaw4_Cell.pv_eq, api_Attr.pv_eq, api_Node.pv_eq, place_Spot.pv_eq, diptychref4_Spot.pv_eq, pvL, List.map_nil, h13a, h13b, h13d, h13f.1, h13f.2, hl0a, hl0b, hl0d, hl0w]
              refine hK _ _ fun nx => ?_; clear hK K; try clear kk
              by_cases h15 : (!same_12) = true
              · rw [if_pos h15] at hh
                refine awp_true (by first | exact congrArg PV.bool h15 | rfl) ?_
                refine awp_first fun K kk hK => ?_
                simp only [go_sem, ↓reduceIte, reduceCtorEq, Nat.reduceEqDiff, Nat.reduceAdd, Nat.reduceMul, Nat.reduceSub, Nat.reduceLT, Nat.reduceLeDiff, Nat.reducePow, Nat.reduceBEq, Nat.reduceBNe, Int.reduceNeg, Int.reduceBEq, Int.reduceBNe, Int.reduceAdd, Int.reduceSub, Int.reduceMul, Int.reduceLT, Int.reduceLE, Int.reduceToNat, Int.reduceEq, Int.reduceNe, List.take_length, take_map_len, runesOf_eq, runeBytes_map, an_diptychref1_SameAll, nf_diptychref1_SameAll, fp_diptychref1_SameAll, ty3, ty4, ty9, ty50, ty51, ty52, ty54, ty90, diptychlaw4_Cell.pv_eq, api_Attr.pv_eq, api_Node.pv_eq, place_Spot.pv_eq, diptychref4_Spot.pv_eq, pvL, List.map_nil, hl0a, hl0b, hl0d, hl0w]
                refine hK _ _ fun nx => ?_; clear hK K; try clear kk
                refine awp_ret ?_; (repeat (with_reducible first | refine then_n ?_ | refine then_r ?_ | refine then_e ?_ | refine block_n ?_ | refine block_r ?_ | refine exit_here ?_ | refine exit_on rfl ?_ | refine scope_n ?_ | refine scope_r ?_ | refine scope_e ?_ | refine cut_awp ?_))
                refine fragR ⟨_, (Option.some.inj hh), ?_⟩
                refine ret_pure2 ?_ (by rfl)
                simp only [go_sem, ↓reduceIte, reduceCtorEq, Nat.reduceEqDiff, Nat.reduceAdd, Nat.reduceMul, Nat.reduceSub, Nat.reduceLT, Nat.reduceLeDiff, Nat.reducePow, Nat.reduceBEq, Nat.reduceBNe, Int.reduceNeg, Int.reduceBEq, Int.reduceBNe, Int.reduceAdd, Int.reduceSub, Int.reduceMul, Int.reduceLT, Int.reduceLE, Int.reduceToNat, Int.reduceEq, Int.reduceNe, List.take_length, take_map_len, runesOf_eq, runeBytes_map, an_diptychref1_SameAll, nf_diptychref1_SameAll, fp_diptychref1_SameAll, ty3, ty4, ty9, ty50, ty51, ty52, ty54, ty90, diptychlaw4_Cell.pv_eq, api_Attr.pv_eq, api_Node.pv_eq, place_Spot.pv_eq, diptychref4_Spot.pv_eq, pvL, List.map_nil, rvsRes, rvRes, cellRes, tupOf, pur2, List.map_cons, List.map_append, List.head?_cons]
                (repeat (first | exact Wk.refl _ | exact WkL.refl _ | exact Wk.nil _ | refine Wk.agg _ _ ?_ | refine Wk.tup _ _ ?_ | refine WkL.cons _ _ _ _ ?_ ?_ | exact WkL.nil))
              · rw [if_neg h15] at hh
                replace h15 := Bool.eq_false_iff.mpr h15
                refine awp_false (by first | exact congrArg PV.bool h15 | rfl) ?_
                refine awp_skip ?_; (repeat (with_reducible first | refine then_n ?_ | refine then_r ?_ | refine then_e ?_ | refine block_n ?_ | refine block_r ?_ | refine exit_here ?_ | refine exit_on rfl ?_ | refine scope_n ?_ | refine scope_r ?_ | refine scope_e ?_ | refine cut_awp ?_))
                refine awp_region fun K kk hK => ?_
                simp only [go_sem, ↓reduceIte, reduceCtorEq, Nat.reduceEqDiff, Nat.reduceAdd, Nat.reduceMul, Nat.reduceSub, Nat.reduceLT, Nat.reduceLeDiff, Nat.reducePow, Nat.reduceBEq, Nat.reduceBNe, Int.reduceNeg, Int.reduceBEq, Int.reduceBNe, Int.reduceAdd, Int.reduceSub, Int.reduceMul, Int.reduceLT, Int.reduceLE, Int.reduceToNat, Int.reduceEq, Int.reduceNe, List.take_length, take_map_len, runesOf_eq, runeBytes_map, an_diptychref1_SameAll, nf_diptychref1_SameAll, fp_diptychref1_SameAll, ty3, ty4, ty9, ty50, ty51, ty52, ty54, ty90, diptychlaw4_Cell.pv_eq, api_Attr.pv_eq, api_Node.pv_eq, place_Spot.pv_eq, diptychref4_Spot.pv_eq, pvL, List.map_nil, hl0a, hl0b, hl0d, hl0w]
                refine hK _ _ fun nx => ?_; clear hK K; try clear kk
                (repeat (with_reducible first | refine then_n ?_ | refine then_r ?_ | refine then_e ?_ | refine block_n ?_ | refine block_r ?_ | refine exit_here ?_ | refine exit_on rfl ?_ | refine scope_n ?_ | refine scope_r ?_ | refine scope_e ?_ | refine cut_awp ?_))
                have ih' := ih (pre ++ [y_10]) (i_6 + 1) (by rw [hsplit]; simp) (by simp [hidx]) hh nx
                refine cut_id ?_
                first | exact ih' | (simp only [diptychlaw4_Cell.pv_eq, api_Attr.pv_eq, api_Node.pv_eq, place_Spot.pv_eq, diptychref4_Spot.pv_eq, pvL, List.map_cons, List.map_nil, List.map_append] at ih' ⊢; exact ih')
          exact key a_1 [] _ rfl rfl f0 _
        · rintro s ⟨t, hless, rfl, i_14, v_15, nx, rfl⟩
          try dsimp only at hh
          (repeat (with_reducible first | refine then_n ?_ | refine then_r ?_ | refine then_e ?_ | refine block_n ?_ | refine block_r ?_ | refine exit_here ?_ | refine exit_on rfl ?_ | refine scope_n ?_ | refine scope_r ?_ | refine scope_e ?_))
          first | (refine cut_less hless ?_; try refine cut_awp ?_) | refine frag_less hless ?_
          refine awp_first fun K kk hK => ?_
          simp only [go_sem, ↓reduceIte, reduceCtorEq, Nat.reduceEqDiff, Nat.reduceAdd, Nat.reduceMul, Nat.reduceSub, Nat.reduceLT, Nat.reduceLeDiff, Nat.reducePow, Nat.reduceBEq, Nat.reduceBNe, Int.reduceNeg, Int.reduceBEq, Int.reduceBNe, Int.reduceAdd, Int.reduceSub, Int.reduceMul, Int.reduceLT, Int.reduceLE, Int.reduceToNat, Int.reduceEq, Int.reduceNe, List.take_length, take_map_len, runesOf_eq, runeBytes_map, an_diptychref1_SameAll, nf_diptychref1_SameAll, fp_diptychref1_SameAll, ty3, ty4, ty9, ty50, ty51, ty52, ty54, ty90, diptychlaw4_Cell.pv_eq, api_Attr.pv_eq, api_Node.pv_eq, place_Spot.pv_eq, diptychref4_Spot.pv_eq, pvL, List.map_nil]
          refine hK _ _ fun nx => ?_; clear hK K; try clear kk
          refine awp_ret ?_; (repeat (with_reducible first | refine then_n ?_ | refine then_r ?_ | refine then_e ?_ | refine block_n ?_ | refine block_r ?_ | refine exit_here ?_ | refine exit_on rfl ?_ | refine scope_n ?_ | refine scope_r ?_ | refine scope_e ?_ | refine cut_awp ?_))
          obtain hR := Option.some.inj hh
          subst hR
          refine ret_pure2 ?_ (by rfl)
          simp only [go_sem, ↓reduceIte, reduceCtorEq, Nat.reduceEqDiff, Nat.reduceAdd, Nat.reduceMul, Nat.reduceSub, Nat.reduceLT, Nat.reduceLeDiff, Nat.reducePow, Nat.reduceBEq, Nat.reduceBNe, Int.reduceNeg, Int.reduceBEq, Int.reduceBNe, Int.reduceAdd, Int.reduceSub, Int.reduceMul, Int.reduceLT, Int.reduceLE, Int.reduceToNat, Int.reduceEq, Int.reduceNe, List.take_length, take_map_len, runesOf_eq, runeBytes_map, an_diptychref1_SameAll, nf_diptychref1_SameAll, fp_diptychref1_SameAll, ty3, ty4, ty9, ty50, ty51, ty52, ty54, ty90, diptychlaw4_Cell.pv_eq, api_Attr.pv_eq, api_Node.pv_eq, place_Spot.pv_eq, diptychref4_Spot.pv_eq, pvL, List.map_nil, rvsRes, rvRes, cellRes, tupOf, pur2, List.map_cons, List.map_append, List.head?_cons]
          (repeat (first | exact Wk.refl _ | exact WkL.refl _ | exact Wk.nil _ | refine Wk.agg _ _ ?_ | refine Wk.tup _ _ ?_ | refine WkL.cons _ _ _ _ ?_ ?_ | exact WkL.nil))
        · intro i s h; exact h.elim
        · rintro s ⟨res_13, rfl, hb⟩
          try dsimp only at hh
          obtain hR := Option.some.inj hh
          subst hR
          (repeat (with_reducible first | refine then_n ?_ | refine then_r ?_ | refine then_e ?_ | refine block_n ?_ | refine block_r ?_ | refine exit_here ?_ | refine exit_on rfl ?_ | refine scope_n ?_ | refine scope_r ?_ | refine scope_e ?_ | refine cut_awp ?_))
          exact hb
    · intro a_1 b_2 R hh
      rw [diptychref1_Same_k] at hh
      refine start_diptychref1_Same rfl ?_
      refine awp_first fun K kk hK => ?_
      simp only [go_sem, ↓reduceIte, reduceCtorEq, Nat.reduceEqDiff, Nat.reduceAdd, Nat.reduceMul, Nat.reduceSub, Nat.reduceLT, Nat.reduceLeDiff, Nat.reducePow, Nat.reduceBEq, Nat.reduceBNe, Int.reduceNeg, Int.reduceBEq, Int.reduceBNe, Int.reduceAdd, Int.reduceSub, Int.reduceMul, Int.reduceLT, Int.reduceLE, Int.reduceToNat, Int.reduceEq, Int.reduceNe, List.take_length, take_map_len, runesOf_eq, runeBytes_map, an_diptychref1_Same, nf_diptychref1_Same, fp_diptychref1_Same, ty3, ty4, ty9, ty50, ty51, ty52, ty54, ty90, diptychlaw4_Cell.pv_eq, api_Attr.pv_eq, api_Node.pv_eq, place_Spot.pv_eq, diptychref4_Spot.pv_eq, pvL, List.map_nil]
      refine hK _ _ fun nx => ?_; clear hK K; try clear kk
      refine awp_seq ?_
      by_cases h1 : (!(a_1.Kind == b_2.Kind)) = true
      · rw [if_pos h1] at hh
        refine awp_first fun K kk hK => ?_
        simp only [go_sem, ↓reduceIte, reduceCtorEq, Nat.reduceEqDiff, Nat.reduceAdd, Nat.reduceMul, Nat.reduceSub, Nat.reduceLT, Nat.reduceLeDiff, Nat.reducePow, Nat.reduceBEq, Nat.reduceBNe, Int.reduceNeg, Int.reduceBEq, Int.reduceBNe, Int.reduceAdd, Int.reduceSub, Int.reduceMul, Int.reduceLT, Int.reduceLE, Int.reduceToNat, Int.reduceEq, Int.reduceNe, List.take_length, take_map_len, runesOf_eq, runeBytes_map, an_diptychref1_Same, nf_diptychref1_Same, fp_diptychref1_Same, ty3, ty4, ty9, ty50, ty51, ty52, ty54, ty90, diptychlaw4_Cell.pv_eq, api_Attr.pv_eq, api_Node.pv_eq, place_Spot.pv_eq, diptychref4_Spot.pv_eq, pvL, List.map_nil, h1, h1]
        refine hK _ _ fun nx => ?_; clear hK K; try clear kk
        refine awp_true rfl ?_
        refine awp_first fun K kk hK => ?_
        simp only [go_sem, ↓reduceIte, reduceCtorEq, Nat.reduceEqDiff, Nat.reduceAdd, Nat.reduceMul, Nat.reduceSub, Nat.reduceLT, Nat.reduceLeDiff, Nat.reducePow, Nat.reduceBEq, Nat.reduceBNe, Int.reduceNeg, Int.reduceBEq, Int.reduceBNe, Int.reduceAdd, Int.reduceSub, Int.reduceMul, Int.reduceLT, Int.reduceLE, Int.reduceToNat, Int.reduceEq, Int.reduceNe, List.take_length, take_map_len, runesOf_eq, runeBytes_map, an_diptychref1_Same, nf_diptychref1_Same, fp_diptychref1_Same, ty3, ty4, ty9, ty50, ty51, ty52, ty54, ty90, diptychlaw4_Cell.pv_eq, api_Attr.pv_eq, api_Node.pv_eq, place_Spot.pv_eq, diptychref4_Spot.pv_eq, pvL, List.map_nil]
        refine hK _ _ fun nx => ?_; clear hK K; try clear kk
        refine awp_ret ?_; (repeat (with_reducible first | refine then_n ?_ | refine then_r ?_ | refine then_e ?_ | refine block_n ?_ | refine block_r ?_ | refine exit_here ?_ | refine exit_on rfl ?_ | refine scope_n ?_ | refine scope_r ?_ | refine scope_e ?_ | refine cut_awp ?_))
        obtain hR := Option.some.inj hh
        subst hR
        refine ret_pure2 ?_ (by rfl)
        simp only [go_sem, ↓reduceIte, reduceCtorEq, Nat.reduceEqDiff, Nat.reduceAdd, Nat.reduceMul, Nat.reduceSub, Nat.reduceLT, Nat.reduceLeDiff, Nat.reducePow, Nat.reduceBEq, Nat.reduceBNe, Int.reduceNeg, Int.reduceBEq, Int.reduceBNe, Int.reduceAdd, Int.reduceSub, Int.reduceMul, Int.reduceLT, Int.reduceLE, Int.reduceToNat, Int.reduceEq, Int.reduceNe, List.take_length, take_map_len, runesOf_eq, runeBytes_map, an_diptychref1_Same, nf_diptychref1_Same, fp_diptychref1_Same, ty3, ty4, ty9, ty50, ty51, ty52, ty54, ty90, diptychlaw4_Cell.pv_eq, api_Attr.pv_eq, api_Node.pv_eq, place_Spot.pv_eq, diptychref4_Spot.pv_eq, pvL, List.map_nil, rvsRes, rvRes, cellRes, tupOf, pur2, List.map_cons, List.map_append, List.head?_cons]
        (repeat (first | exact Wk.refl _ | exact WkL.refl _ | exact Wk.nil _ | refine Wk.agg _ _ ?_ | refine Wk.tup _ _ ?_ | refine WkL.cons _ _ _ _ ?_ ?_ | exact WkL.nil))
      · rw [if_neg h1] at hh
        replace h1 := Bool.eq_false_iff.mpr h1
        by_cases h2 : (!(a_1.Text == b_2.Text)) = true
        · rw [if_pos h2] at hh
          refine awp_first fun K kk hK => ?_
          simp only [go_sem, ↓reduceIte, reduceCtorEq, Nat.reduceEqDiff, Nat.reduceAdd, Nat.reduceMul, Nat.reduceSub, Nat.reduceLT, Nat.reduceLeDiff, Nat.reducePow, Nat.reduceBEq, Nat.reduceBNe, Int.reduceNeg, Int.reduceBEq, Int.reduceBNe, Int.reduceAdd, Int.reduceSub, Int.reduceMul, Int.reduceLT, Int.reduceLE, Int.reduceToNat, Int.reduceEq, Int.reduceNe, List.take_length, take_map_len, runesOf_eq, runeBytes_map, an_diptychref1_Same, nf_diptychref1_Same, fp_diptychref1_Same, ty3, ty4, ty9, ty50, ty51, ty52, ty54, ty90, diptychlaw4_Cell.pv_eq, api_Attr.pv_eq, api_Node.pv_eq, place_Spot.pv_eq, diptychref4_Spot.pv_eq, pvL, List.map_nil, h1, h1, h2, h2]
          refine hK _ _ fun nx => ?_; clear hK K; try clear kk
          refine awp_true rfl ?_
          refine awp_first fun K kk hK => ?_
          simp only [go_sem, ↓reduceIte, reduceCtorEq, Nat.reduceEqDiff, Nat.reduceAdd, Nat.reduceMul, Nat.reduceSub, Nat.reduceLT, Nat.reduceLeDiff, Nat.reducePow, Nat.reduceBEq, Nat.reduceBNe, Int.reduceNeg, Int.reduceBEq, Int.reduceBNe, Int.reduceAdd, Int.reduceSub, Int.reduceMul, Int.reduceLT, Int.reduceLE, Int.reduceToNat, Int.reduceEq, Int.reduceNe, List.take_length, take_map_len, runesOf_eq, runeBytes_map, an_diptychref1_Same, nf_diptychref1_Same, fp_diptychref1_Same, ty3, ty4, ty9, ty50, ty51, ty52, ty54, ty90, diptychlaw4_Cell.pv_eq, api_Attr.pv_eq, api_Node.pv_eq, place_Spot.pv_eq, diptychref4_Spot.pv_eq, pvL, List.map_nil]
          refine hK _ _ fun nx => ?_; clear hK K; try clear kk
          refine awp_ret ?_; (repeat (with_reducible first | refine then_n ?_ | refine then_r ?_ | refine then_e ?_ | refine block_n ?_ | refine block_r ?_ | refine exit_here ?_ | refine exit_on rfl ?_ | refine scope_n ?_ | refine scope_r ?_ | refine scope_e ?_ | refine cut_awp ?_))
          obtain hR := Option.some.inj hh
          subst hR
          refine ret_pure2 ?_ (by rfl)
          simp only [go_sem, ↓reduceIte, reduceCtorEq, Nat.reduceEqDiff, Nat.reduceAdd, Nat.reduceMul, Nat.reduceSub, Nat.reduceLT, Nat.reduceLeDiff, Nat.reducePow, Nat.reduceBEq, Nat.reduceBNe, Int.reduceNeg, Int.reduceBEq, Int.reduceBNe, Int.reduceAdd, Int.reduceSub, Int.reduceMul, Int.reduceLT, Int.reduceLE, Int.reduceToNat, Int.reduceEq, Int.reduceNe, List.take_length, take_map_len, runesOf_eq, runeBytes_map, an_diptychref1_Same, nf_diptychref1_Same, fp_diptychref1_Same, ty3, ty4, ty9, ty50, ty51, ty52, ty54, ty90, diptychlaw4_Cell.pv_eq, api_Attr.pv_eq, api_Node.pv_eq, place_Spot.pv_eq, diptychref4_Spot.pv_eq, pvL, List.map_nil, rvsRes, rvRes, cellRes, tupOf, pur2, List.map_cons, List.map_append, List.head?_cons]
          (repeat (first | exact Wk.refl _ | exact WkL.refl _ | exact Wk.nil _ | refine Wk.agg _ _ ?_ | refine Wk.tup _ _ ?_ | refine WkL.cons _ _ _ _ ?_ ?_ | exact WkL.nil))
        · rw [if_neg h2] at hh
          replace h2 := Bool.eq_false_iff.mpr h2
          obtain ⟨samena_3, h3, hh⟩ := bind_ex hh
          by_cases h4 : (!samena_3) = true
          · rw [if_pos h4] at hh
            refine awp_first fun K kk hK => ?_
            simp only [go_sem, ↓reduceIte, reduceCtorEq, Nat.reduceEqDiff, Nat.reduceAdd, Nat.reduceMul, Nat.reduceSub, Nat.reduceLT, Nat.reduceLeDiff, Nat.reducePow, Nat.reduceBEq, Nat.reduceBNe, Int.reduceNeg, Int.reduceBEq, Int.reduceBNe, Int.reduceAdd, Int.reduceSub, Int.reduceMul, Int.reduceLT, Int.reduceLE, Int.reduceToNat, Int.reduceEq, Int.reduceNe, List.take_length, take_map_len, runesOf_eq, runeBytes_map, an_diptychref1_Same, nf_diptychref1_Same, fp_diptychref1_Same, ty3, ty4, ty9, ty50, ty51, ty52, ty54, ty90, diptychlaw4_Cell.pv_eq, api_Attr.pv_eq, api_Node.pv_eq, place_Spot.pv_eq, diptychref4_Spot.pv_eq, pvL, List.map_nil, h1, h1, h2, h2, h4, h4]
            refine step_call2 (diptychref1_sameNames_ok _ _ _ h3) (by simp only [go_sem, ↓reduceIte, reduceCtorEq, Nat.reduceEqDiff, Nat.reduceAdd, Nat.reduceMul, Nat.reduceSub, Nat.reduceLT, Nat.reduceLeDiff, Nat.reducePow, Nat.reduceBEq, Nat.reduceBNe, Int.reduceNeg, Int.reduceBEq, Int.reduceBNe, Int.reduceAdd, Int.reduceSub, Int.reduceMul, Int.reduceLT, Int.reduceLE, Int.reduceToNat, Int.reduceEq, Int.reduceNe, List.take_length, take_map_len, runesOf_eq, runeBytes_map, an_diptychref1_Same, nf_diptychref1_Same, fp_diptychref1_Same, ty3, ty4, ty9, ty50, ty51, ty52, ty54, ty90, diptychlaw4_Cell.pv_eq, api_Attr.pv_eq, api_Node.pv_eq, place_Spot.pv_eq, diptychref4_Spot.pv_eq, pvL, List.map_nil, h1, h1, h2, h2, h4, h4]; (repeat (first | exact WkL.refl _ | exact Wk.refl _ | exact Wk.nil _ | refine WkL.cons _ _ _ _ ?_ ?_ | exact WkL.nil | refine Wk.agg _ _ ?_ | refine Wk.tup _ _ ?_))) (by rfl) (by rfl) ?_
            simp only [go_sem, ↓reduceIte, reduceCtorEq, Nat.reduceEqDiff, Nat.reduceAdd, Nat.reduceMul, Nat.reduceSub, Nat.reduceLT, Nat.reduceLeDiff, Nat.reducePow, Nat.reduceBEq, Nat.reduceBNe, Int.reduceNeg, Int.reduceBEq, Int.reduceBNe, Int.reduceAdd, Int.reduceSub, Int.reduceMul, Int.reduceLT, Int.reduceLE, Int.reduceToNat, Int.reduceEq, Int.reduceNe, List.take_length, take_map_len, runesOf_eq, runeBytes_map, an_diptychref1_Same, nf_diptychref1_Same, fp_diptychref1_Same, ty3, ty4, ty9, ty50, ty51, ty52, ty54, ty90, diptychlaw4_Cell.pv_eq, api_Attr.pv_eq, api_Node.pv_eq, place_Spot.pv_eq, diptychref4_Spot.pv_eq, pvL, List.map_nil, h1, h1, h2, h2, h4, h4]
            refine hK _ _ fun nx => ?_; clear hK K; try clear kk
            refine awp_true rfl ?_
            refine awp_first fun K kk hK => ?_
            simp only [go_sem, ↓reduceIte, reduceCtorEq, Nat.reduceEqDiff, Nat.reduceAdd, Nat.reduceMul, Nat.reduceSub, Nat.reduceLT, Nat.reduceLeDiff, Nat.reducePow, Nat.reduceBEq, Nat.reduceBNe, Int.reduceNeg, Int.reduceBEq, Int.reduceBNe, Int.reduceAdd, Int.reduceSub, Int.reduceMul, Int.reduceLT, Int.reduceLE, Int.reduceToNat, Int.reduceEq, Int.reduceNe, List.take_length, take_map_len, runesOf_eq, runeBytes_map, an_diptychref1_Same, nf_diptychref1_Same, fp_diptychref1_Same, ty3, ty4, ty9, ty50, ty51, ty52, ty54, ty90, diptychlaw4_Cell.pv_eq, api_Attr.pv_eq, api_Node.pv_eq, place_Spot.pv_eq, diptychref4_Spot.pv_eq, pvL, List.map_nil]
            refine hK _ _ fun nx => ?_; clear hK K; try clear kk
            refine awp_ret ?_; (repeat (with_reducible first | refine then_n ?_ | refine then_r ?_ | refine then_e ?_ | refine block_n ?_ | refine block_r ?_ | refine exit_here ?_ | refine exit_on rfl ?_ | refine scope_n ?_ | refine scope_r ?_ | refine scope_e ?_ | refine cut_awp ?_))
            obtain hR := Option.some.inj hh
            subst hR
            refine ret_pure2 ?_ (by rfl)
            simp only [go_sem, ↓reduceIte, reduceCtorEq, Nat.reduceEqDiff, Nat.reduceAdd, Nat.reduceMul, Nat.reduceSub, Nat.reduceLT, Nat.reduceLeDiff, Nat.reducePow, Nat.reduceBEq, Nat.reduceBNe, Int.reduceNeg, Int.reduceBEq, Int.reduceBNe, Int.reduceAdd, Int.reduceSub, Int.reduceMul, Int.reduceLT, Int.reduceLE, Int.reduceToNat, Int.reduceEq, Int.reduceNe, List.take_length, take_map_len, runesOf_eq, runeBytes_map, an_diptychref1_Same, nf_diptychref1_Same, fp_diptychref1_Same, ty3, ty4, ty9, ty50, ty51, ty52, ty54, ty90, diptychlaw4_Cell.pv_eq, api_Attr.pv_eq, api_Node.pv_eq, place_Spot.pv_eq, diptychref4_Spot.pv_eq, pvL, List.map_nil, rvsRes, rvRes, cellRes, tupOf, pur2, List.map_cons, List.map_append, List.head?_cons]
            (repeat (first | exact Wk.refl _ | exact WkL.refl _ | exact Wk.nil _ | refine Wk.agg _ _ ?_ | refine Wk.tup _ _ ?_ | refine WkL.cons _ _ _ _ ?_ ?_ | exact WkL.nil))
          · rw [if_neg h4] at hh
            replace h4 := Bool.eq_false_iff.mpr h4
            refine awp_first fun K kk hK => ?_
            simp only [go_sem, ↓reduceIte, reduceCtorEq, Nat.reduceEqDiff, Nat.reduceAdd, Nat.reduceMul, Nat.reduceSub, Nat.reduceLT, Nat.reduceLeDiff, Nat.reducePow, Nat.reduceBEq, Nat.reduceBNe, Int.reduceNeg, Int.reduceBEq, Int.reduceBNe, Int.reduceAdd, Int.reduceSub, Int.reduceMul, Int.reduceLT, Int.reduceLE, Int.reduceToNat, Int.reduceEq, Int.reduceNe, List.take_length, take_map_len, runesOf_eq, runeBytes_map, an_diptychref1_Same, nf_diptychref1_Same, fp_diptychref1_Same, ty3, ty4, ty9, ty50, ty51, ty52, ty54, ty90, diptychlaw4_Cell.pv_eq, api_Attr.pv_eq, api_Node.pv_eq, place_Spot.pv_eq, diptychref4_Spot.pv_eq, pvL, List.map_nil, h1, h1, h2, h2, h4, h4]
            refine step_call2 (diptychref1_sameNames_ok _ _ _ h3) (by simp only [go_sem, ↓reduceIte, reduceCtorEq, Nat.reduceEqDiff, Nat.reduceAdd, Nat.reduceMul, Nat.reduceSub, Nat.reduceLT, Nat.reduceLeDiff, Nat.reducePow, Nat.reduceBEq, Nat.reduceBNe, Int.reduceNeg, Int.reduceBEq, Int.reduceBNe, Int.reduceAdd, Int.reduceSub, Int.reduceMul, Int.reduceLT, Int.reduceLE, Int.reduceToNat, Int.reduceEq, Int.reduceNe, List.take_length, take_map_len, runesOf_eq, runeBytes_map, an_diptychref1_Same, nf_diptychref1_Same, fp_diptychref1_Same, ty3, ty4, ty9, ty50, ty51, ty52, ty54, ty90, diptychlaw4_Cell.pv_eq, api_Attr.pv_eq, api_Node.pv_eq, place_Spot.pv_eq, diptychref4_Spot.pv_eq, pvL, List.map_nil, h1, h1, h2, h2, h4, h4]; (repeat (first | exact WkL.refl _ | exact Wk.refl _ | exact Wk.nil _ | refine WkL.cons _ _ _ _ ?_ ?_ | exact WkL.nil | refine Wk.agg _ _ ?_ | refine Wk.tup _ _ ?_))) (by rfl) (by rfl) ?_
            simp only [go_sem, ↓reduceIte, reduceCtorEq, Nat.reduceEqDiff, Nat.reduceAdd, Nat.reduceMul, Nat.reduceSub, Nat.reduceLT, Nat.reduceLeDiff, Nat.reducePow, Nat.reduceBEq, Nat.reduceBNe, Int.reduceNeg, Int.reduceBEq, Int.reduceBNe, Int.reduceAdd, Int.reduceSub, Int.reduceMul, Int.reduceLT, Int.reduceLE, Int.reduceToNat, Int.reduceEq, Int.reduceNe, List.take_length, take_map_len, runesOf_eq, runeBytes_map, an_diptychref1_Same, nf_diptychref1_Same, fp_diptychref1_Same, ty3, ty4, ty9, ty50, ty51, ty52, ty54, ty90, diptychlaw4_Cell.pv_eq, api_Attr.pv_eq, api_Node.pv_eq, place_Spot.pv_eq, diptychref4_Spot.pv_eq, pvL, List.map_nil, h1, h1, h2, h2, h4, h4]
            refine hK _ _ fun nx => ?_; clear hK K; try clear kk
            by_cases h5 : ((a_1.Attrs.length : Int) != (b_2.Attrs.length : Int)) = true
            · rw [if_pos h5] at hh
              refine awp_true (by first | exact congrArg PV.bool h5 | rfl) ?_
              refine awp_first fun K kk hK => ?_
              simp only [go_sem, ↓reduceIte, reduceCtorEq, Nat.reduceEqDiff, Nat.reduceAdd, Nat.reduceMul, Nat.reduceSub, Nat.reduceLT, Nat.reduceLeDiff, Nat.reducePow, Nat.reduceBEq, Nat.reduceBNe, Int.reduceNeg, Int.reduceBEq, Int.reduceBNe, Int.reduceAdd, Int.reduceSub, Int.reduceMul, Int.reduceLT, Int.reduceLE, Int.reduceToNat, Int.reduceEq, Int.reduceNe, List.take_length, take_map_len, runesOf_eq, runeBytes_map, an_diptychref1_Same, nf_diptychref1_Same, fp_diptychref1_Same, ty3, ty4, ty9, ty50, ty51, ty52, ty54, ty90, diptychlaw4_Cell.pv_eq, api_Attr.pv_eq, api_Node.pv_eq, place_Spot.pv_eq, diptychref4_Spot.pv_eq, pvL, List.map_nil]
              refine hK _ _ fun nx => ?_; clear hK K; try clear kk
              refine awp_ret ?_; (repeat (with_reducible first | refine then_n ?_ | refine then_r ?_ | refine then_e ?_ | refine block_n ?_ | refine block_r ?_ | refine exit_here ?_ | refine exit_on rfl ?_ | refine scope_n ?_ | refine scope_r ?_ | refine scope_e ?_ | refine cut_awp ?_))
              obtain hR := Option.some.inj hh
              subst hR
              refine ret_pure2 ?_ (by rfl)
              simp only [go_sem, ↓reduceIte, reduceCtorEq, Nat.reduceEqDiff, Nat.reduceAdd, Nat.reduceMul, Nat.reduceSub, Nat.reduceLT, Nat.reduceLeDiff, Nat.reducePow, Nat.reduceBEq, Nat.reduceBNe, Int.reduceNeg, Int.reduceBEq, Int.reduceBNe, Int.reduceAdd, Int.reduceSub, Int.reduceMul, Int.reduceLT, Int.reduceLE, Int.reduceToNat, Int.reduceEq, Int.reduceNe, List.take_length, take_map_len, runesOf_eq, runeBytes_map, an_diptychref1_Same, nf_diptychref1_Same, fp_diptychref1_Same, ty3, ty4, ty9, ty50, ty51, ty52, ty54, ty90, diptychlaw4_Cell.pv_eq, api_Attr.pv_eq, api_Node.pv_eq, place_Spot.pv_eq, diptychref4_Spot.pv_eq, pvL, List.map_nil, rvsRes, rvRes, cellRes, tupOf, pur2, List.map_cons, List.map_append, List.head?_cons]
              (repeat (first | exact Wk.refl _ | exact WkL.refl _ | exact Wk.nil _ | refine Wk.agg _ _ ?_ | refine Wk.tup _ _ ?_ | refine WkL.cons _ _ _ _ ?_ ?_ | exact WkL.nil))
            · rw [if_neg h5] at hh
              replace h5 := Bool.eq_false_iff.mpr h5
              refine awp_false (by first | exact congrArg PV.bool h5 | rfl) ?_
              refine awp_skip ?_; (repeat (with_reducible first | refine then_n ?_ | refine then_r ?_ | refine then_e ?_ | refine block_n ?_ | refine block_r ?_ | refine exit_here ?_ | refine exit_on rfl ?_ | refine scope_n ?_ | refine scope_r ?_ | refine scope_e ?_ | refine cut_awp ?_))
              refine awp_seq ?_
              refine awp_first fun K kk hK => ?_
              simp only [go_sem, ↓reduceIte, reduceCtorEq, Nat.reduceEqDiff, Nat.reduceAdd, Nat.reduceMul, Nat.reduceSub, Nat.reduceLT, Nat.reduceLeDiff, Nat.reducePow, Nat.reduceBEq, Nat.reduceBNe, Int.reduceNeg, Int.reduceBEq, Int.reduceBNe, Int.reduceAdd, Int.reduceSub, Int.reduceMul, Int.reduceLT, Int.reduceLE, Int.reduceToNat, Int.reduceEq, Int.reduceNe, List.take_length, take_map_len, runesOf_eq, runeBytes_map, an_diptychref1_Same, nf_diptychref1_Same, fp_diptychref1_Same, ty3, ty4, ty9, ty50, ty51, ty52, ty54, ty90, diptychlaw4_Cell.pv_eq, api_Attr.pv_eq, api_Node.pv_eq, place_Spot.pv_eq, diptychref4_Spot.pv_eq, pvL, List.map_nil]
              refine hK _ _ fun nx => ?_; clear hK K; try clear kk
              obtain ⟨e0, f0, hh⟩ := bind_ex hh
              obtain ⟨hlen0, f0⟩ := chk_some f0
              refine awp_fragE (CutTo (fun s => .inr () = e0 ∧ ∃ (i_12 : Int) (v_13 : Bool) (nx : Nat) (g2 : Nat) (g3 : Nat), s = ⟨[(2, .box 2 g2 0), (3, .box 3 g3 0), (5, .int .i64 i_12), (39, .bool v_13)], [(2, g2, .var [.str a_1.Kind, .str a_1.Text, .list 1 (a_1.Marks.map PV.str), .list 2 (a_1.Attrs.map api_Attr.pv), .list 5 (a_1.Kids.map api_Node.pv)]), (3, g3, .var [.str b_2.Kind, .str b_2.Text, .list 1 (b_2.Marks.map PV.str), .list 2 (b_2.Attrs.map api_Attr.pv), .list 5 (b_2.Kids.map api_Node.pv)])], nx⟩))
                (fun i s => False)
                (fun s => ∃ res_11, .inl res_11 = e0 ∧ bodyR Try.prog [.tmp 4] (.bool res_11) [] .ret s) ?_ ?_ ?_ ?_
              · refine awp_block ?_
                refine awp_loopJ fun I hI => ?_
                have key : ∀ (suf pre : List api_Attr) (i_6 : Int), a_1.Attrs = pre ++ suf → i_6 = (pre.length : Int) → diptychref1_Same_l0 b_2 suf i_6 = some e0 → ∀ (nx : Nat) (g2 : Nat) (g3 : Nat), I ⟨[(2, .box 2 g2 0), (3, .box 3 g3 0), (5, .int .i64 i_6)], [(2, g2, .var [.str a_1.Kind, .str a_1.Text, .list 1 (a_1.Marks.map PV.str), .list 2 (a_1.Attrs.map api_Attr.pv), .list 5 (a_1.Kids.map api_Node.pv)]), (3, g3, .var [.str b_2.Kind, .str b_2.Text, .list 1 (b_2.Marks.map PV.str), .list 2 (b_2.Attrs.map api_Attr.pv), .list 5 (b_2.Kids.map api_Node.pv)])], nx⟩ := by
                  intro suf
                  induction suf with
                  | nil =>
                    intro pre i_6 hsplit hidx hh nx g2 g3
                    rw [diptychref1_Same_l0] at hh
                    refine hI _ ?_
                    have h14 := walk_nil hsplit hidx
                    refine awp_seq ?_
                    refine awp_first fun K kk hK => ?_
                    simp only [go_sem, ↓reduceIte, reduceCtorEq, Nat.reduceEqDiff, Nat.reduceAdd, Nat.reduceMul, Nat.reduceSub, Nat.reduceLT, Nat.reduceLeDiff, Nat.reducePow, Nat.reduceBEq, Nat.reduceBNe, Int.reduceNeg, Int.reduceBEq, Int.reduceBNe, Int.reduceAdd, Int.reduceSub, Int.reduceMul, Int.reduceLT, Int.reduceLE, Int.reduceToNat, Int.reduceEq, Int.reduceNe, List.take_length, take_map_len, runesOf_eq, runeBytes_map, an_diptychref1_Same, nf_diptychref1_Same, fp_diptychref1_Same, ty3, ty4, ty9, ty50, ty51, ty52, ty54, ty90, diptychlaw4_Cell.pv_eq, api_Attr.pv_eq, api_Node.pv_eq, place_Spot.pv_eq, diptychref4_Spot.pv_eq, pvL, List.map_nil]
                    refine hK _ _ fun nx => ?_; clear hK K; try clear kk
                    refine awp_false (by first | exact congrArg PV.bool h14 | rfl) ?_
                    refine awp_exit ?_; (repeat (with_reducible first | refine then_n ?_ | refine then_r ?_ | refine then_e ?_ | refine block_n ?_ | refine block_r ?_ | refine exit_here ?_ | refine exit_on rfl ?_ | refine scope_n ?_ | refine scope_r ?_ | refine scope_e ?_ | refine cut_awp ?_))
                    refine fragN ?_
                    refine cut_id ?_
                    refine ⟨(Option.some.inj hh), ?_⟩
                    first | exact ⟨_, _, _, _, _, rfl⟩ | (simp only [diptychlaw4_Cell.pv_eq, api_Attr.pv_eq, api_Node.pv_eq, place_Spot.pv_eq, diptychref4_Spot.pv_eq, pvL, List.map_cons, List.map_nil, List.map_append]; exact ⟨_, _, _, _, _, rfl⟩)
                  | cons y_9 suf ih =>
                    intro pre i_6 hsplit hidx hh nx g2 g3
                    rw [diptychref1_Same_l0] at hh
                    refine hI _ ?_
                    obtain ⟨hl0a, hl0b, hl0d, hl0w, h14⟩ := walk_cons (f := api_Attr.pv) hsplit hidx hlen0
                    refine awp_seq ?_
                    refine awp_first fun K kk hK => ?_
                    simp only [go_sem, ↓reduceIte, reduceCtorEq, Nat.reduceEqDiff, Nat.reduceAdd, Nat.reduceMul, Nat.reduceSub, Nat.reduceLT, Nat.reduceLeDiff, Nat.reducePow, Nat.reduceBEq, Nat.reduceBNe, Int.reduceNeg, Int.reduceBEq, Int.reduceBNe, Int.reduceAdd, Int.reduceSub, Int.reduceMul, Int.reduceLT, Int.reduceLE, Int.reduceToNat, Int.reduceEq, Int.reduceNe, List.take_length, take_map_len, runesOf_eq, runeBytes_map, an_diptychref1_Same, nf_diptychref1_Same, fp_diptychref1_Same, ty3, ty4, ty9, ty50, ty51, ty52, ty54, ty90, diptychlaw4_Cell.pv_eq, api_Attr.pv_eq, api_Node.pv_eq, place_Spot.pv_eq, diptychref4_Spot.pv_eq, pvL, List.map_nil]
                    refine hK _ _ fun nx => ?_; clear hK K; try clear kk
                    refine awp_true (by first | exact congrArg PV.bool h14 | rfl) ?_
                    refine awp_skip ?_; (repeat (with_reducible first | refine then_n ?_ | refine then_r ?_ | refine then_e ?_ | refine block_n ?_ | refine block_r ?_ | refine exit_here ?_ | refine exit_on rfl ?_ | refine scope_n ?_ | refine scope_r ?_ | refine scope_e ?_ | refine cut_awp ?_))
                    refine awp_seq ?_
                    refine awp_block ?_
                    obtain ⟨x_10, h15, hh⟩ := bind_ex hh
                    obtain ⟨h15a, h15b, h15c⟩ := rd_some h15
                    have h15d := rd_get (f := api_Attr.pv) h15c
                    have h15f := rd_more (f := api_Attr.pv) h15c
                    try simp only [Int.toNat_natCast, Int.reduceToNat] at h15d h15f
                    refine awp_first fun K kk hK => ?_
                    simp only [go_sem, ↓reduceIte, reduceCtorEq, Nat.reduceEqDiff, Nat.reduceAdd, Nat.reduceMul, Nat.reduceSub, Nat.reduceLT, Nat.reduceLeDiff, Nat.reducePow, Nat.reduceBEq, Nat.reduceBNe, Int.reduceNeg, Int.reduceBEq, Int.reduceBNe, Int.reduceAdd, Int.reduceSub, Int.reduceMul, Int.reduceLT, Int.reduceLE, Int.reduceToNat, Int.reduceEq, Int.reduceNe, List.take_length, take_map_len, runesOf_eq, runeBytes_map, an_diptychref1_Same, nf_diptychref1_Same, fp_diptychref1_Same, ty3, ty4, ty9, ty50, ty51, ty52, ty54, ty90, diptychlaw4_Cell.pv_eq, api_Attr.pv_eq, api_Node.pv_eq, place_Spot.pv_eq, diptychref4_Spot.pv_eq, pvL, List.map_nil, h15a, h15b, h15d, h15f.1, h15f.2, hl0a, hl0b, hl0d, hl0w]
                    refine hK _ _ fun nx => ?_; clear hK K; try clear kk
                    by_cases h16 : ((((y_9.Name == x_10.Name) && (y_9.Value == x_10.Value)) != true)) = true
                    · rw [if_pos h16] at hh
                      refine awp_true (by first | exact congrArg PV.bool h16 | rfl) ?_
                      refine awp_first fun K kk hK => ?_
                      simp only [go_sem, ↓reduceIte, reduceCtorEq, Nat.reduceEqDiff, Nat.reduceAdd, Nat.reduceMul, Nat.reduceSub, Nat.reduceLT, Nat.reduceLeDiff, Nat.reducePow, Nat.reduceBEq, Nat.reduceBNe, Int.reduceNeg, Int.reduceBEq, Int.reduceBNe, Int.reduceAdd, Int.reduceSub, Int.reduceMul, Int.reduceLT, Int.reduceLE, Int.reduceToNat, Int.reduceEq, Int.reduceNe, List.take_length, take_map_len, runesOf_eq, runeBytes_map, an_diptychref1_Same, nf_diptychref1_Same, fp_diptychref1_Same, ty3, ty4, ty9, ty50, ty51, ty52, ty54, ty90, diptychlaw4_Cell.pv_eq, api_Attr.pv_eq, api_Node.pv_eq, place_Spot.pv_eq, diptychref4_Spot.pv_eq, pvL, List.map_nil, hl0a, hl0b, hl0d, hl0w]
                      refine hK _ _ fun nx => ?_; clear hK K; try clear kk
                      refine awp_ret ?_; (repeat (with_reducible first | refine then_n ?_ | refine then_r ?_ | refine then_e ?_ | refine block_n ?_ | refine block_r ?_ | refine exit_here ?_ | refine exit_on rfl ?_ | refine scope_n ?_ | refine scope_r ?_ | refine scope_e ?_ | refine cut_awp ?_))
                      refine fragR ⟨_, (Option.some.inj hh), ?_⟩
                      refine ret_pure2 ?_ (by rfl)
                      simp only [go_sem, ↓reduceIte, reduceCtorEq, Nat.reduceEqDiff, Nat.reduceAdd, Nat.reduceMul, Nat.reduceSub, Nat.reduceLT, Nat.reduceLeDiff, Nat.reducePow, Nat.reduceBEq, Nat.reduceBNe, Int.reduceNeg, Int.reduceBEq, Int.reduceBNe, Int.reduceAdd, Int.reduceSub, Int.reduceMul, Int.reduceLT, Int.reduceLE, Int.reduceToNat, Int.reduceEq, Int.reduceNe, List.take_length, take_map_len, runesOf_eq, runeBytes_map, an_diptychref1_Same, nf_diptychref1_Same, fp_diptychref1_Same, ty3, ty4, ty9, ty50, ty51, ty52, ty54, ty90, diptychlaw4_Cell.pv_eq, api_Attr.pv_eq, api_Node.pv_eq, place_Spot.pv_eq, diptychref4_Spot.pv_eq, pvL, List.map_nil, rvsRes, rvRes, cellRes, tupOf, pur2, List.map_cons, List.map_append, List.head?_cons]
                      (repeat (first | exact Wk.refl _ | exact WkL.refl _ | exact Wk.nil _ | refine Wk.agg _ _ ?_ | refine Wk.tup _ _ ?_ | refine WkL.cons _ _ _ _ ?_ ?_ | exact WkL.nil))
                    · rw [if_neg h16] at hh
                      replace h16 := Bool.eq_false_iff.mpr h16
                      refine awp_false (by first | exact congrArg PV.bool h16 | rfl) ?_
                      refine awp_skip ?_; (repeat (with_reducible first | refine then_n ?_ | refine then_r ?_ | refine then_e ?_ | refine block_n ?_ | refine block_r ?_ | refine exit_here ?_ | refine exit_on rfl ?_ | refine scope_n ?_ | refine scope_r ?_ | refine scope_e ?_ | refine cut_awp ?_))
                      refine awp_region fun K kk hK => ?_
                      simp only [go_sem, ↓reduceIte, reduceCtorEq, Nat.reduceEqDiff, Nat.reduceAdd, Nat.reduceMul, Nat.reduceSub, Nat.reduceLT, Nat.reduceLeDiff, Nat.reducePow, Nat.reduceBEq, Nat.reduceBNe, Int.reduceNeg, Int.reduceBEq, Int.reduceBNe, Int.reduceAdd, Int.reduceSub, Int.reduceMul, Int.reduceLT, Int.reduceLE, Int.reduceToNat, Int.reduceEq, Int.reduceNe, List.take_length, take_map_len, runesOf_eq, runeBytes_map, an_diptychref1_Same, nf_diptychref1_Same, fp_diptychref1_Same, ty3, ty4, ty9, ty50, ty51, ty52, ty54, ty90, diptychlaw4_Cell.pv_eq, api_Attr.pv_eq, api_Node.pv_eq, place_Spot.pv_eq, diptychref4_Spot.pv_eq, pvL, List.map_nil, hl0a, hl0b, hl0d, hl0w]
                      refine hK _ _ fun nx => ?_; clear hK K; try clear kk
                      (repeat (with_reducible first | refine then_n ?_ | refine then_r ?_ | refine then_e ?_ | refine block_n ?_ | refine block_r ?_ | refine exit_here ?_ | refine exit_on rfl ?_ | refine scope_n ?_ | refine scope_r ?_ | refine scope_e ?_ | refine cut_awp ?_))
                      have ih' := ih (pre ++ [y_9]) (i_6 + 1) (by rw [hsplit]; simp) (by simp [hidx]) hh nx
                      refine cut_id ?_
                      first | exact ih' _ _ | (simp only [diptychlaw4_Cell.pv_eq, api_Attr.pv_eq, api_Node.pv_eq, place_Spot.pv_eq, diptychref4_Spot.pv_eq, pvL, List.map_cons, List.map_nil, List.map_append] at ih' ⊢; exact ih' _ _)
                exact key a_1.Attrs [] _ rfl rfl f0 _ _ _
              · rintro s ⟨t, hless, rfl, i_12, v_13, nx, g2, g3, rfl⟩
                try dsimp only at hh
                (repeat (with_reducible first | refine then_n ?_ | refine then_r ?_ | refine then_e ?_ | refine block_n ?_ | refine block_r ?_ | refine exit_here ?_ | refine exit_on rfl ?_ | refine scope_n ?_ | refine scope_r ?_ | refine scope_e ?_))
                first | (refine cut_less hless ?_; try refine cut_awp ?_) | refine frag_less hless ?_
                obtain ⟨sameal_14, h17, hh⟩ := bind_ex hh
                refine awp_first fun K kk hK => ?_
                simp only [go_sem, ↓reduceIte, reduceCtorEq, Nat.reduceEqDiff, Nat.reduceAdd, Nat.reduceMul, Nat.reduceSub, Nat.reduceLT, Nat.reduceLeDiff, Nat.reducePow, Nat.reduceBEq, Nat.reduceBNe, Int.reduceNeg, Int.reduceBEq, Int.reduceBNe, Int.reduceAdd, Int.reduceSub, Int.reduceMul, Int.reduceLT, Int.reduceLE, Int.reduceToNat, Int.reduceEq, Int.reduceNe, List.take_length, take_map_len, runesOf_eq, runeBytes_map, an_diptychref1_Same, nf_diptychref1_Same, fp_diptychref1_Same, ty3, ty4, ty9, ty50, ty51, ty52, ty54, ty90, diptychlaw4_Cell.pv_eq, api_Attr.pv_eq, api_Node.pv_eq, place_Spot.pv_eq, diptychref4_Spot.pv_eq, pvL, List.map_nil]
                refine step_call2 (ih_diptychref1_SameAll _ _ _ h17) (by simp only [go_sem, ↓reduceIte, reduceCtorEq, Nat.reduceEqDiff, Nat.reduceAdd, Nat.reduceMul, Nat.reduceSub, Nat.reduceLT, Nat.reduceLeDiff, Nat.reducePow, Nat.reduceBEq, Nat.reduceBNe, Int.reduceNeg, Int.reduceBEq, Int.reduceBNe, Int.reduceAdd, Int.reduceSub, Int.reduceMul, Int.reduceLT, Int.reduceLE, Int.reduceToNat, Int.reduceEq, Int.reduceNe, List.take_length, take_map_len, runesOf_eq, runeBytes_map, an_diptychref1_Same, nf_diptychref1_Same, fp_diptychref1_Same, ty3, ty4, ty9, ty50, ty51, ty52, ty54, ty90, diptychlaw4_Cell.pv_eq, api_Attr.pv_eq, api_Node.pv_eq, place_Spot.pv_eq, diptychref4_Spot.pv_eq, pvL, List.map_nil]; (repeat (first | exact WkL.refl _ | exact Wk.refl _ | exact Wk.nil _ | refine WkL.cons _ _ _ _ ?_ ?_ | exact WkL.nil | refine Wk.agg _ _ ?_ | refine Wk.tup _ _ ?_))) (by rfl) (by rfl) ?_
                simp only [go_sem, ↓reduceIte, reduceCtorEq, Nat.reduceEqDiff, Nat.reduceAdd, Nat.reduceMul, Nat.reduceSub, Nat.reduceLT, Nat.reduceLeDiff, Nat.reducePow, Nat.reduceBEq, Nat.reduceBNe, Int.reduceNeg, Int.reduceBEq, Int.reduceBNe, Int.reduceAdd, Int.reduceSub, Int.reduceMul, Int.reduceLT, Int.reduceLE, Int.reduceToNat, Int.reduceEq, Int.reduceNe, List.take_length, take_map_len, runesOf_eq, runeBytes_map, an_diptychref1_Same, nf_diptychref1_Same, fp_diptychref1_Same, ty3, ty4, ty9, ty50, ty51, ty52, ty54, ty90, diptychlaw4_Cell.pv_eq, api_Attr.pv_eq, api_Node.pv_eq, place_Spot.pv_eq, diptychref4_Spot.pv_eq, pvL, List.map_nil]
                refine hK _ _ fun nx => ?_; clear hK K; try clear kk
                refine awp_ret ?_; (repeat (with_reducible first | refine then_n ?_ | refine then_r ?_ | refine then_e ?_ | refine block_n ?_ | refine block_r ?_ | refine exit_here ?_ | refine exit_on rfl ?_ | refine scope_n ?_ | refine scope_r ?_ | refine scope_e ?_ | refine cut_awp ?_))
                obtain hR := Option.some.inj hh
                subst hR
                refine ret_pure2 ?_ (by rfl)
                simp only [go_sem, ↓reduceIte, reduceCtorEq, Nat.reduceEqDiff, Nat.reduceAdd, Nat.reduceMul, Nat.reduceSub, Nat.reduceLT, Nat.reduceLeDiff, Nat.reducePow, Nat.reduceBEq, Nat.reduceBNe, Int.reduceNeg, Int.reduceBEq, Int.reduceBNe, Int.reduceAdd, Int.reduceSub, Int.reduceMul, Int.reduceLT, Int.reduceLE, Int.reduceToNat, Int.reduceEq, Int.reduceNe, List.take_length, take_map_len, runesOf_eq, runeBytes_map, an_diptychref1_Same, nf_diptychref1_Same, fp_diptychref1_Same, ty3, ty4, ty9, ty50, ty51, ty52, ty54, ty90, diptychlaw4_Cell.pv_eq, api_Attr.pv_eq, api_Node.pv_eq, place_Spot.pv_eq, diptychref4_Spot.pv_eq, pvL, List.map_nil, rvsRes, rvRes, cellRes, tupOf, pur2, List.map_cons, List.map_append, List.head?_cons]
                (repeat (first | exact Wk.refl _ | exact WkL.refl _ | exact Wk.nil _ | refine Wk.agg _ _ ?_ | refine Wk.tup _ _ ?_ | refine WkL.cons _ _ _ _ ?_ ?_ | exact WkL.nil))
              · intro i s h; exact h.elim
              · rintro s ⟨res_11, rfl, hb⟩
                try dsimp only at hh
                obtain hR := Option.some.inj hh
                subst hR
                (repeat (with_reducible first | refine then_n ?_ | refine then_r ?_ | refine then_e ?_ | refine block_n ?_ | refine block_r ?_ | refine exit_here ?_ | refine exit_on rfl ?_ | refine scope_n ?_ | refine scope_r ?_ | refine scope_e ?_ | refine cut_awp ?_))
                exact hb
theorem diptychref1_SameAll_ok (a_1 : (List api_Node)) (b_2 : (List api_Node)) (R : Bool) (hh : diptychref1_SameAll a_1 b_2 = some R) : PC Try.prog 57 [.list 5 (a_1.map api_Node.pv), .list 5 (b_2.map api_Node.pv)] (.bool R) := by
  rw [diptychref1_SameAll] at hh
  obtain ⟨kr, hh⟩ := lim_some hh
  exact (diptychref1_SameAll_grp kr).1 _ _ _ hh
theorem diptychref1_Same_ok (a_1 : api_Node) (b_2 : api_Node) (R : Bool) (hh : diptychref1_Same a_1 b_2 = some R) : PC Try.prog 44 [.agg [.str a_1.Kind, .str a_1.Text, .list 1 (a_1.Marks.map PV.str), .list 2 (a_1.Attrs.map api_Attr.pv), .list 5 (a_1.Kids.map api_Node.pv)], .agg [.str b_2.Kind, .str b_2.Text, .list 1 (b_2.Marks.map PV.str), .list 2 (b_2.Attrs.map api_Attr.pv), .list 5 (b_2.Kids.map api_Node.pv)]] (.bool R) := by
  rw [diptychref1_Same] at hh
  obtain ⟨kr, hh⟩ := lim_some hh
  exact (diptychref1_SameAll_grp kr).2 _ _ _ hh

end Go.Proofs.Ytafcbjepmjcpgaa
