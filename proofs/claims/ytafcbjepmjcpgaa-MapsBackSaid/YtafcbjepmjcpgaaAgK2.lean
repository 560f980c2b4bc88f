/- What the functions answer, the program answers (2). -/
import Derived.Test.YtafcbjepmjcpgaaAgC
import Derived.Test.YtafcbjepmjcpgaaAgF
import Derived.Test.YtafcbjepmjcpgaaAgK0
namespace Go.Proofs.Ytafcbjepmjcpgaa
set_option linter.unusedSimpArgs false
set_option linter.unusedVariables false
open Go
set_option maxRecDepth 100000

theorem maps_Through_ok (l_1 : (List (List maps_Range))) (pos_2 : Int) (right_3 : Bool) (R : Int) (hh : maps_Through l_1 pos_2 right_3 = some R) : PC Try.prog 17 [.list 1 (l_1.map (pvL 3 maps_Range.pv)), .int .i64 pos_2, .bool right_3] (.int .i64 R) := by
  rw [maps_Through] at hh
  refine start_maps_Through rfl ?_
  refine awp_first fun K kk hK => ?_
  simp only [go_sem, ↓reduceIte, reduceCtorEq, Nat.reduceEqDiff, Nat.reduceAdd, Nat.reduceMul, Nat.reduceSub, Nat.reduceLT, Nat.reduceLeDiff, Nat.reducePow, Nat.reduceBEq, Nat.reduceBNe, Int.reduceNeg, Int.reduceBEq, Int.reduceBNe, Int.reduceAdd, Int.reduceSub, Int.reduceMul, Int.reduceLT, Int.reduceLE, Int.reduceToNat, Int.reduceEq, Int.reduceNe, List.take_length, take_map_len, runesOf_eq, runeBytes_map, an_maps_Through, nf_maps_Through, fp_maps_Through, ty3, ty22, ty25, ty33, maps_Range.pv_eq, diptychref10_Range.pv_eq, pvL, List.map_nil]
  refine hK _ _ fun nx => ?_; clear hK K; try clear kk
  refine awp_seq ?_
  refine awp_first fun K kk hK => ?_
  simp only [go_sem, ↓reduceIte, reduceCtorEq, Nat.reduceEqDiff, Nat.reduceAdd, Nat.reduceMul, Nat.reduceSub, Nat.reduceLT, Nat.reduceLeDiff, Nat.reducePow, Nat.reduceBEq, Nat.reduceBNe, Int.reduceNeg, Int.reduceBEq, Int.reduceBNe, Int.reduceAdd, Int.reduceSub, Int.reduceMul, Int.reduceLT, Int.reduceLE, Int.reduceToNat, Int.reduceEq, Int.reduceNe, List.take_length, take_map_len, runesOf_eq, runeBytes_map, an_maps_Through, nf_maps_Through, fp_maps_Through, ty3, ty22, ty25, ty33, maps_Range.pv_eq, diptychref10_Range.pv_eq, pvL, List.map_nil]
  refine hK _ _ fun nx => ?_; clear hK K; try clear kk
  obtain ⟨e0, f0, hh⟩ := bind_ex hh
  obtain ⟨hlen0, f0⟩ := chk_some f0
  refine awp_fragE (CutTo (fun s => ∃ pos_12, pos_12 = e0 ∧ ∃ (v_13 : Int) (v_14 : Bool) (nx : Nat), s = ⟨[(1, .int .i64 pos_12), (2, .bool right_3), (9, .list 1 (l_1.map (pvL 3 maps_Range.pv))), (10, .int .i64 (l_1.length : Int)), (11, .int .i64 v_13), (12, .bool v_14)], [], nx⟩))
    (fun i s => False)
    (fun s => False) ?_ ?_ ?_ ?_
  · refine awp_block ?_
    refine awp_loopJ fun I hI => ?_
    have key : ∀ (suf pre : List (List maps_Range)) (v_7 : Int) (pos_6 : Int), l_1 = pre ++ suf → v_7 = (pre.length : Int) → maps_Through_l0 right_3 suf v_7 pos_6 = some e0 → ∀ (nx : Nat), I ⟨[(1, .int .i64 pos_6), (2, .bool right_3), (9, .list 1 (l_1.map (pvL 3 maps_Range.pv))), (10, .int .i64 (l_1.length : Int)), (11, .int .i64 v_7)], [], nx⟩ := by
      intro suf
      induction suf with
      | nil =>
        intro pre v_7 pos_6 hsplit hidx hh nx
        rw [maps_Through_l0] at hh
        refine hI _ ?_
        have h7 := walk_nil hsplit hidx
        refine awp_first fun K kk hK => ?_
        simp only [go_sem, ↓reduceIte, reduceCtorEq, Nat.reduceEqDiff, Nat.reduceAdd, Nat.reduceMul, Nat.reduceSub, Nat.reduceLT, Nat.reduceLeDiff, Nat.reducePow, Nat.reduceBEq, Nat.reduceBNe, Int.reduceNeg, Int.reduceBEq, Int.reduceBNe, Int.reduceAdd, Int.reduceSub, Int.reduceMul, Int.reduceLT, Int.reduceLE, Int.reduceToNat, Int.reduceEq, Int.reduceNe, List.take_length, take_map_len, runesOf_eq, runeBytes_map, an_maps_Through, nf_maps_Through, fp_maps_Through, ty3, ty22, ty25, ty33, maps_Range.pv_eq, diptychref10_Range.pv_eq, pvL, List.map_nil]
        refine hK _ _ fun nx => ?_; clear hK K; try clear kk
        refine awp_seq ?_
        refine awp_false (by first | exact congrArg PV.bool h7 | rfl) ?_
        refine awp_exit ?_; (repeat (with_reducible first | refine then_n ?_ | refine then_r ?_ | refine then_e ?_ | refine block_n ?_ | refine block_r ?_ | refine exit_here ?_ | refine exit_on rfl ?_ | refine scope_n ?_ | refine scope_r ?_ | refine scope_e ?_ | refine cut_awp ?_))
        refine fragN ?_
        refine cut_id ?_
        refine ⟨_, (Option.some.inj hh), ?_⟩
        first | exact ⟨_, _, _, rfl⟩ | (simp only [maps_Range.pv_eq, diptychref10_Range.pv_eq, pvL, List.map_cons, List.map_nil, List.map_append]; exact ⟨_, _, _, rfl⟩)
      | cons y_10 suf ih =>
        intro pre v_7 pos_6 hsplit hidx hh nx
        rw [maps_Through_l0] at hh
        refine hI _ ?_
        obtain ⟨hl0a, hl0b, hl0d, hl0w, h7⟩ := walk_cons (f := (pvL 3 maps_Range.pv)) hsplit hidx hlen0
        refine awp_first fun K kk hK => ?_
        simp only [go_sem, ↓reduceIte, reduceCtorEq, Nat.reduceEqDiff, Nat.reduceAdd, Nat.reduceMul, Nat.reduceSub, Nat.reduceLT, Nat.reduceLeDiff, Nat.reducePow, Nat.reduceBEq, Nat.reduceBNe, Int.reduceNeg, Int.reduceBEq, Int.reduceBNe, Int.reduceAdd, Int.reduceSub, Int.reduceMul, Int.reduceLT, Int.reduceLE, Int.reduceToNat, Int.reduceEq, Int.reduceNe, List.take_length, take_map_len, runesOf_eq, runeBytes_map, an_maps_Through, nf_maps_Through, fp_maps_Through, ty3, ty22, ty25, ty33, maps_Range.pv_eq, diptychref10_Range.pv_eq, pvL, List.map_nil]
        refine hK _ _ fun nx => ?_; clear hK K; try clear kk
        refine awp_seq ?_
        refine awp_true (by first | exact congrArg PV.bool h7 | rfl) ?_
        refine awp_skip ?_; (repeat (with_reducible first | refine then_n ?_ | refine then_r ?_ | refine then_e ?_ | refine block_n ?_ | refine block_r ?_ | refine exit_here ?_ | refine exit_on rfl ?_ | refine scope_n ?_ | refine scope_r ?_ | refine scope_e ?_ | refine cut_awp ?_))
        refine awp_seq ?_
        refine awp_block ?_
        refine awp_first fun K kk hK => ?_
        simp only [go_sem, ↓reduceIte, reduceCtorEq, Nat.reduceEqDiff, Nat.reduceAdd, Nat.reduceMul, Nat.reduceSub, Nat.reduceLT, Nat.reduceLeDiff, Nat.reducePow, Nat.reduceBEq, Nat.reduceBNe, Int.reduceNeg, Int.reduceBEq, Int.reduceBNe, Int.reduceAdd, Int.reduceSub, Int.reduceMul, Int.reduceLT, Int.reduceLE, Int.reduceToNat, Int.reduceEq, Int.reduceNe, List.take_length, take_map_len, runesOf_eq, runeBytes_map, an_maps_Through, nf_maps_Through, fp_maps_Through, ty3, ty22, ty25, ty33, maps_Range.pv_eq, diptychref10_Range.pv_eq, pvL, List.map_nil, hl0a, hl0b, hl0d, hl0w]
        refine hK _ _ fun nx => ?_; clear hK K; try clear kk
        obtain ⟨to_11, h8, hh⟩ := bind_ex hh
        refine awp_region fun K kk hK => ?_
        simp only [go_sem, ↓reduceIte, reduceCtorEq, Nat.reduceEqDiff, Nat.reduceAdd, Nat.reduceMul, Nat.reduceSub, Nat.reduceLT, Nat.reduceLeDiff, Nat.reducePow, Nat.reduceBEq, Nat.reduceBNe, Int.reduceNeg, Int.reduceBEq, Int.reduceBNe, Int.reduceAdd, Int.reduceSub, Int.reduceMul, Int.reduceLT, Int.reduceLE, Int.reduceToNat, Int.reduceEq, Int.reduceNe, List.take_length, take_map_len, runesOf_eq, runeBytes_map, an_maps_Through, nf_maps_Through, fp_maps_Through, ty3, ty22, ty25, ty33, maps_Range.pv_eq, diptychref10_Range.pv_eq, pvL, List.map_nil, hl0a, hl0b, hl0d, hl0w]
        refine step_call2 (maps_To_ok _ _ _ _ h8) (by simp only [go_sem, ↓reduceIte, reduceCtorEq, Nat.reduceEqDiff, Nat.reduceAdd, Nat.reduceMul, Nat.reduceSub, Nat.reduceLT, Nat.reduceLeDiff, Nat.reducePow, Nat.reduceBEq, Nat.reduceBNe, Int.reduceNeg, Int.reduceBEq, Int.reduceBNe, Int.reduceAdd, Int.reduceSub, Int.reduceMul, Int.reduceLT, Int.reduceLE, Int.reduceToNat, Int.reduceEq, Int.reduceNe, List.take_length, take_map_len, runesOf_eq, runeBytes_map, an_maps_Through, nf_maps_Through, fp_maps_Through, ty3, ty22, ty25, ty33, maps_Range.pv_eq, diptychref10_Range.pv_eq, pvL, List.map_nil, hl0a, hl0b, hl0d, hl0w]; (repeat (first | exact WkL.refl _ | exact Wk.refl _ | exact Wk.nil _ | refine WkL.cons _ _ _ _ ?_ ?_ | exact WkL.nil | refine Wk.agg _ _ ?_ | refine Wk.tup _ _ ?_))) (by rfl) (by rfl) ?_
        simp only [go_sem, ↓reduceIte, reduceCtorEq, Nat.reduceEqDiff, Nat.reduceAdd, Nat.reduceMul, Nat.reduceSub, Nat.reduceLT, Nat.reduceLeDiff, Nat.reducePow, Nat.reduceBEq, Nat.reduceBNe, Int.reduceNeg, Int.reduceBEq, Int.reduceBNe, Int.reduceAdd, Int.reduceSub, Int.reduceMul, Int.reduceLT, Int.reduceLE, Int.reduceToNat, Int.reduceEq, Int.reduceNe, List.take_length, take_map_len, runesOf_eq, runeBytes_map, an_maps_Through, nf_maps_Through, fp_maps_Through, ty3, ty22, ty25, ty33, maps_Range.pv_eq, diptychref10_Range.pv_eq, pvL, List.map_nil, hl0a, hl0b, hl0d, hl0w]
        refine hK _ _ fun nx => ?_; clear hK K; try clear kk
        (repeat (with_reducible first | refine then_n ?_ | refine then_r ?_ | refine then_e ?_ | refine block_n ?_ | refine block_r ?_ | refine exit_here ?_ | refine exit_on rfl ?_ | refine scope_n ?_ | refine scope_r ?_ | refine scope_e ?_ | refine cut_awp ?_))
        refine awp_region fun K kk hK => ?_
        simp only [go_sem, ↓reduceIte, reduceCtorEq, Nat.reduceEqDiff, Nat.reduceAdd, Nat.reduceMul, Nat.reduceSub, Nat.reduceLT, Nat.reduceLeDiff, Nat.reducePow, Nat.reduceBEq, Nat.reduceBNe, Int.reduceNeg, Int.reduceBEq, Int.reduceBNe, Int.reduceAdd, Int.reduceSub, Int.reduceMul, Int.reduceLT, Int.reduceLE, Int.reduceToNat, Int.reduceEq, Int.reduceNe, List.take_length, take_map_len, runesOf_eq, runeBytes_map, an_maps_Through, nf_maps_Through, fp_maps_Through, ty3, ty22, ty25, ty33, maps_Range.pv_eq, diptychref10_Range.pv_eq, pvL, List.map_nil, hl0a, hl0b, hl0d, hl0w]
        refine hK _ _ fun nx => ?_; clear hK K; try clear kk
        (repeat (with_reducible first | refine then_n ?_ | refine then_r ?_ | refine then_e ?_ | refine block_n ?_ | refine block_r ?_ | refine exit_here ?_ | refine exit_on rfl ?_ | refine scope_n ?_ | refine scope_r ?_ | refine scope_e ?_ | refine cut_awp ?_))
        have ih' := ih (pre ++ [y_10]) (v_7 + 1) _ (by rw [hsplit]; simp) (by simp [hidx]) hh nx
        refine cut_id ?_
        first | exact ih' | (simp only [maps_Range.pv_eq, diptychref10_Range.pv_eq, pvL, List.map_cons, List.map_nil, List.map_append] at ih' ⊢; exact ih')
    exact key l_1 [] _ _ rfl rfl f0 _
  · rintro s ⟨t, hless, pos_12, rfl, v_13, v_14, nx, rfl⟩
    try dsimp only at hh
    (repeat (with_reducible first | refine then_n ?_ | refine then_r ?_ | refine then_e ?_ | refine block_n ?_ | refine block_r ?_ | refine exit_here ?_ | refine exit_on rfl ?_ | refine scope_n ?_ | refine scope_r ?_ | refine scope_e ?_))
    first | (refine cut_less hless ?_; try refine cut_awp ?_) | refine frag_less hless ?_
    refine awp_first fun K kk hK => ?_
    simp only [go_sem, ↓reduceIte, reduceCtorEq, Nat.reduceEqDiff, Nat.reduceAdd, Nat.reduceMul, Nat.reduceSub, Nat.reduceLT, Nat.reduceLeDiff, Nat.reducePow, Nat.reduceBEq, Nat.reduceBNe, Int.reduceNeg, Int.reduceBEq, Int.reduceBNe, Int.reduceAdd, Int.reduceSub, Int.reduceMul, Int.reduceLT, Int.reduceLE, Int.reduceToNat, Int.reduceEq, Int.reduceNe, List.take_length, take_map_len, runesOf_eq, runeBytes_map, an_maps_Through, nf_maps_Through, fp_maps_Through, ty3, ty22, ty25, ty33, maps_Range.pv_eq, diptychref10_Range.pv_eq, pvL, List.map_nil]
    refine hK _ _ fun nx => ?_; clear hK K; try clear kk
    refine awp_ret ?_; (repeat (with_reducible first | refine then_n ?_ | refine then_r ?_ | refine then_e ?_ | refine block_n ?_ | refine block_r ?_ | refine exit_here ?_ | refine exit_on rfl ?_ | refine scope_n ?_ | refine scope_r ?_ | refine scope_e ?_ | refine cut_awp ?_))
    obtain hR := Option.some.inj hh
    subst hR
    refine ret_pure2 ?_ (by rfl)
    simp only [go_sem, ↓reduceIte, reduceCtorEq, Nat.reduceEqDiff, Nat.reduceAdd, Nat.reduceMul, Nat.reduceSub, Nat.reduceLT, Nat.reduceLeDiff, Nat.reducePow, Nat.reduceBEq, Nat.reduceBNe, Int.reduceNeg, Int.reduceBEq, Int.reduceBNe, Int.reduceAdd, Int.reduceSub, Int.reduceMul, Int.reduceLT, Int.reduceLE, Int.reduceToNat, Int.reduceEq, Int.reduceNe, List.take_length, take_map_len, runesOf_eq, runeBytes_map, an_maps_Through, nf_maps_Through, fp_maps_Through, ty3, ty22, ty25, ty33, maps_Range.pv_eq, diptychref10_Range.pv_eq, pvL, List.map_nil, rvsRes, rvRes, cellRes, tupOf, pur2, List.map_cons, List.map_append, List.head?_cons]
    (repeat (first | exact Wk.refl _ | exact WkL.refl _ | exact Wk.nil _ | refine Wk.agg _ _ ?_ | refine Wk.tup _ _ ?_ | refine WkL.cons _ _ _ _ ?_ ?_ | exact WkL.nil))
  · intro i s h; exact h.elim
  · intro s h; exact h.elim
theorem maps_Grows_ok (m_1 : (List maps_Range)) (R : Int) (hh : maps_Grows m_1 = some R) : PC Try.prog 19 [.list 3 (m_1.map maps_Range.pv)] (.int .i64 R) := by
  rw [maps_Grows] at hh
  refine start_maps_Grows rfl ?_
  refine awp_first fun K kk hK => ?_
  simp only [go_sem, ↓reduceIte, reduceCtorEq, Nat.reduceEqDiff, Nat.reduceAdd, Nat.reduceMul, Nat.reduceSub, Nat.reduceLT, Nat.reduceLeDiff, Nat.reducePow, Nat.reduceBEq, Nat.reduceBNe, Int.reduceNeg, Int.reduceBEq, Int.reduceBNe, Int.reduceAdd, Int.reduceSub, Int.reduceMul, Int.reduceLT, Int.reduceLE, Int.reduceToNat, Int.reduceEq, Int.reduceNe, List.take_length, take_map_len, runesOf_eq, runeBytes_map, an_maps_Grows, nf_maps_Grows, fp_maps_Grows, ty3, ty25, ty33, maps_Range.pv_eq, diptychref10_Range.pv_eq, pvL, List.map_nil]
  refine hK _ _ fun nx => ?_; clear hK K; try clear kk
  refine awp_first fun K kk hK => ?_
  simp only [go_sem, ↓reduceIte, reduceCtorEq, Nat.reduceEqDiff, Nat.reduceAdd, Nat.reduceMul, Nat.reduceSub, Nat.reduceLT, Nat.reduceLeDiff, Nat.reducePow, Nat.reduceBEq, Nat.reduceBNe, Int.reduceNeg, Int.reduceBEq, Int.reduceBNe, Int.reduceAdd, Int.reduceSub, Int.reduceMul, Int.reduceLT, Int.reduceLE, Int.reduceToNat, Int.reduceEq, Int.reduceNe, List.take_length, take_map_len, runesOf_eq, runeBytes_map, an_maps_Grows, nf_maps_Grows, fp_maps_Grows, ty3, ty25, ty33, maps_Range.pv_eq, diptychref10_Range.pv_eq, pvL, List.map_nil]
  refine hK _ _ fun nx => ?_; clear hK K; try clear kk
  refine awp_seq ?_
  refine awp_first fun K kk hK => ?_
  simp only [go_sem, ↓reduceIte, reduceCtorEq, Nat.reduceEqDiff, Nat.reduceAdd, Nat.reduceMul, Nat.reduceSub, Nat.reduceLT, Nat.reduceLeDiff, Nat.reducePow, Nat.reduceBEq, Nat.reduceBNe, Int.reduceNeg, Int.reduceBEq, Int.reduceBNe, Int.reduceAdd, Int.reduceSub, Int.reduceMul, Int.reduceLT, Int.reduceLE, Int.reduceToNat, Int.reduceEq, Int.reduceNe, List.take_length, take_map_len, runesOf_eq, runeBytes_map, an_maps_Grows, nf_maps_Grows, fp_maps_Grows, ty3, ty25, ty33, maps_Range.pv_eq, diptychref10_Range.pv_eq, pvL, List.map_nil]
  refine hK _ _ fun nx => ?_; clear hK K; try clear kk
  obtain ⟨e0, f0, hh⟩ := bind_ex hh
  obtain ⟨hlen0, f0⟩ := chk_some f0
  refine awp_fragE (CutTo (fun s => ∃ n_7, n_7 = e0 ∧ ∃ (v_8 : Int) (v_9 : Bool) (nx : Nat), s = ⟨[(3, .int .i64 n_7), (6, .list 3 (m_1.map maps_Range.pv)), (7, .int .i64 (m_1.length : Int)), (8, .int .i64 v_8), (9, .bool v_9)], [], nx⟩))
    (fun i s => False)
    (fun s => False) ?_ ?_ ?_ ?_
  · refine awp_block ?_
    refine awp_loopJ fun I hI => ?_
    have key : ∀ (suf pre : List maps_Range) (v_4 : Int) (n_3 : Int), m_1 = pre ++ suf → v_4 = (pre.length : Int) → maps_Grows_l0 suf v_4 n_3 = some e0 → ∀ (nx : Nat), I ⟨[(3, .int .i64 n_3), (6, .list 3 (m_1.map maps_Range.pv)), (7, .int .i64 (m_1.length : Int)), (8, .int .i64 v_4)], [], nx⟩ := by
      intro suf
      induction suf with
      | nil =>
        intro pre v_4 n_3 hsplit hidx hh nx
        rw [maps_Grows_l0] at hh
        refine hI _ ?_
        have h5 := walk_nil hsplit hidx
        refine awp_first fun K kk hK => ?_
        simp only [go_sem, ↓reduceIte, reduceCtorEq, Nat.reduceEqDiff, Nat.reduceAdd, Nat.reduceMul, Nat.reduceSub, Nat.reduceLT, Nat.reduceLeDiff, Nat.reducePow, Nat.reduceBEq, Nat.reduceBNe, Int.reduceNeg, Int.reduceBEq, Int.reduceBNe, Int.reduceAdd, Int.reduceSub, Int.reduceMul, Int.reduceLT, Int.reduceLE, Int.reduceToNat, Int.reduceEq, Int.reduceNe, List.take_length, take_map_len, runesOf_eq, runeBytes_map, an_maps_Grows, nf_maps_Grows, fp_maps_Grows, ty3, ty25, ty33, maps_Range.pv_eq, diptychref10_Range.pv_eq, pvL, List.map_nil]
        refine hK _ _ fun nx => ?_; clear hK K; try clear kk
        refine awp_seq ?_
        refine awp_false (by first | exact congrArg PV.bool h5 | rfl) ?_
        refine awp_exit ?_; (repeat (with_reducible first | refine then_n ?_ | refine then_r ?_ | refine then_e ?_ | refine block_n ?_ | refine block_r ?_ | refine exit_here ?_ | refine exit_on rfl ?_ | refine scope_n ?_ | refine scope_r ?_ | refine scope_e ?_ | refine cut_awp ?_))
        refine fragN ?_
        refine cut_id ?_
        refine ⟨_, (Option.some.inj hh), ?_⟩
        first | exact ⟨_, _, _, rfl⟩ | (simp only [maps_Range.pv_eq, diptychref10_Range.pv_eq, pvL, List.map_cons, List.map_nil, List.map_append]; exact ⟨_, _, _, rfl⟩)
      | cons y_6 suf ih =>
        intro pre v_4 n_3 hsplit hidx hh nx
        rw [maps_Grows_l0] at hh
        refine hI _ ?_
        obtain ⟨hl0a, hl0b, hl0d, hl0w, h5⟩ := walk_cons (f := maps_Range.pv) hsplit hidx hlen0
        refine awp_first fun K kk hK => ?_
        simp only [go_sem, ↓reduceIte, reduceCtorEq, Nat.reduceEqDiff, Nat.reduceAdd, Nat.reduceMul, Nat.reduceSub, Nat.reduceLT, Nat.reduceLeDiff, Nat.reducePow, Nat.reduceBEq, Nat.reduceBNe, Int.reduceNeg, Int.reduceBEq, Int.reduceBNe, Int.reduceAdd, Int.reduceSub, Int.reduceMul, Int.reduceLT, Int.reduceLE, Int.reduceToNat, Int.reduceEq, Int.reduceNe, List.take_length, take_map_len, runesOf_eq, runeBytes_map, an_maps_Grows, nf_maps_Grows, fp_maps_Grows, ty3, ty25, ty33, maps_Range.pv_eq, diptychref10_Range.pv_eq, pvL, List.map_nil]
        refine hK _ _ fun nx => ?_; clear hK K; try clear kk
        refine awp_seq ?_
        refine awp_true (by first | exact congrArg PV.bool h5 | rfl) ?_
        refine awp_skip ?_; (repeat (with_reducible first | refine then_n ?_ | refine then_r ?_ | refine then_e ?_ | refine block_n ?_ | refine block_r ?_ | refine exit_here ?_ | refine exit_on rfl ?_ | refine scope_n ?_ | refine scope_r ?_ | refine scope_e ?_ | refine cut_awp ?_))
        refine awp_seq ?_
        refine awp_block ?_
        refine awp_first fun K kk hK => ?_
        simp only [go_sem, ↓reduceIte, reduceCtorEq, Nat.reduceEqDiff, Nat.reduceAdd, Nat.reduceMul, Nat.reduceSub, Nat.reduceLT, Nat.reduceLeDiff, Nat.reducePow, Nat.reduceBEq, Nat.reduceBNe, Int.reduceNeg, Int.reduceBEq, Int.reduceBNe, Int.reduceAdd, Int.reduceSub, Int.reduceMul, Int.reduceLT, Int.reduceLE, Int.reduceToNat, Int.reduceEq, Int.reduceNe, List.take_length, take_map_len, runesOf_eq, runeBytes_map, an_maps_Grows, nf_maps_Grows, fp_maps_Grows, ty3, ty25, ty33, maps_Range.pv_eq, diptychref10_Range.pv_eq, pvL, List.map_nil, hl0a, hl0b, hl0d, hl0w]
        refine hK _ _ fun nx => ?_; clear hK K; try clear kk
        refine awp_region fun K kk hK => ?_
        simp only [go_sem, ↓reduceIte, reduceCtorEq, Nat.reduceEqDiff, Nat.reduceAdd, Nat.reduceMul, Nat.reduceSub, Nat.reduceLT, Nat.reduceLeDiff, Nat.reducePow, Nat.reduceBEq, Nat.reduceBNe, Int.reduceNeg, Int.reduceBEq, Int.reduceBNe, Int.reduceAdd, Int.reduceSub, Int.reduceMul, Int.reduceLT, Int.reduceLE, Int.reduceToNat, Int.reduceEq, Int.reduceNe, List.take_length, take_map_len, runesOf_eq, runeBytes_map, an_maps_Grows, nf_maps_Grows, fp_maps_Grows, ty3, ty25, ty33, maps_Range.pv_eq, diptychref10_Range.pv_eq, pvL, List.map_nil, hl0a, hl0b, hl0d, hl0w]
        refine hK _ _ fun nx => ?_; clear hK K; try clear kk
        (repeat (with_reducible first | refine then_n ?_ | refine then_r ?_ | refine then_e ?_ | refine block_n ?_ | refine block_r ?_ | refine exit_here ?_ | refine exit_on rfl ?_ | refine scope_n ?_ | refine scope_r ?_ | refine scope_e ?_ | refine cut_awp ?_))
        refine awp_region fun K kk hK => ?_
        simp only [go_sem, ↓reduceIte, reduceCtorEq, Nat.reduceEqDiff, Nat.reduceAdd, Nat.reduceMul, Nat.reduceSub, Nat.reduceLT, Nat.reduceLeDiff, Nat.reducePow, Nat.reduceBEq, Nat.reduceBNe, Int.reduceNeg, Int.reduceBEq, Int.reduceBNe, Int.reduceAdd, Int.reduceSub, Int.reduceMul, Int.reduceLT, Int.reduceLE, Int.reduceToNat, Int.reduceEq, Int.reduceNe, List.take_length, take_map_len, runesOf_eq, runeBytes_map, an_maps_Grows, nf_maps_Grows, fp_maps_Grows, ty3, ty25, ty33, maps_Range.pv_eq, diptychref10_Range.pv_eq, pvL, List.map_nil, hl0a, hl0b, hl0d, hl0w]
        refine hK _ _ fun nx => ?_; clear hK K; try clear kk
        (repeat (with_reducible first | refine then_n ?_ | refine then_r ?_ | refine then_e ?_ | refine block_n ?_ | refine block_r ?_ | refine exit_here ?_ | refine exit_on rfl ?_ | refine scope_n ?_ | refine scope_r ?_ | refine scope_e ?_ | refine cut_awp ?_))
        have ih' := ih (pre ++ [y_6]) (v_4 + 1) _ (by rw [hsplit]; simp) (by simp [hidx]) hh nx
        refine cut_id ?_
        first | exact ih' | (simp only [maps_Range.pv_eq, diptychref10_Range.pv_eq, pvL, List.map_cons, List.map_nil, List.map_append] at ih' ⊢; exact ih')
    exact key m_1 [] _ _ rfl rfl f0 _
  · rintro s ⟨t, hless, n_7, rfl, v_8, v_9, nx, rfl⟩
    try dsimp only at hh
    (repeat (with_reducible first | refine then_n ?_ | refine then_r ?_ | refine then_e ?_ | refine block_n ?_ | refine block_r ?_ | refine exit_here ?_ | refine exit_on rfl ?_ | refine scope_n ?_ | refine scope_r ?_ | refine scope_e ?_))
    first | (refine cut_less hless ?_; try refine cut_awp ?_) | refine frag_less hless ?_
    refine awp_first fun K kk hK => ?_
    simp only [go_sem, ↓reduceIte, reduceCtorEq, Nat.reduceEqDiff, Nat.reduceAdd, Nat.reduceMul, Nat.reduceSub, Nat.reduceLT, Nat.reduceLeDiff, Nat.reducePow, Nat.reduceBEq, Nat.reduceBNe, Int.reduceNeg, Int.reduceBEq, Int.reduceBNe, Int.reduceAdd, Int.reduceSub, Int.reduceMul, Int.reduceLT, Int.reduceLE, Int.reduceToNat, Int.reduceEq, Int.reduceNe, List.take_length, take_map_len, runesOf_eq, runeBytes_map, an_maps_Grows, nf_maps_Grows, fp_maps_Grows, ty3, ty25, ty33, maps_Range.pv_eq, diptychref10_Range.pv_eq, pvL, List.map_nil]
    refine hK _ _ fun nx => ?_; clear hK K; try clear kk
    refine awp_ret ?_; (repeat (with_reducible first | refine then_n ?_ | refine then_r ?_ | refine then_e ?_ | refine block_n ?_ | refine block_r ?_ | refine exit_here ?_ | refine exit_on rfl ?_ | refine scope_n ?_ | refine scope_r ?_ | refine scope_e ?_ | refine cut_awp ?_))
    obtain hR := Option.some.inj hh
    subst hR
    refine ret_pure2 ?_ (by rfl)
    simp only [go_sem, ↓reduceIte, reduceCtorEq, Nat.reduceEqDiff, Nat.reduceAdd, Nat.reduceMul, Nat.reduceSub, Nat.reduceLT, Nat.reduceLeDiff, Nat.reducePow, Nat.reduceBEq, Nat.reduceBNe, Int.reduceNeg, Int.reduceBEq, Int.reduceBNe, Int.reduceAdd, Int.reduceSub, Int.reduceMul, Int.reduceLT, Int.reduceLE, Int.reduceToNat, Int.reduceEq, Int.reduceNe, List.take_length, take_map_len, runesOf_eq, runeBytes_map, an_maps_Grows, nf_maps_Grows, fp_maps_Grows, ty3, ty25, ty33, maps_Range.pv_eq, diptychref10_Range.pv_eq, pvL, List.map_nil, rvsRes, rvRes, cellRes, tupOf, pur2, List.map_cons, List.map_append, List.head?_cons]
    (repeat (first | exact Wk.refl _ | exact WkL.refl _ | exact Wk.nil _ | refine Wk.agg _ _ ?_ | refine Wk.tup _ _ ?_ | refine WkL.cons _ _ _ _ ?_ ?_ | exact WkL.nil))
  · intro i s h; exact h.elim
  · intro s h; exact h.elim
theorem maps_Turn_ok (m_1 : (List maps_Range)) (R : (List maps_Range)) (hh : maps_Turn m_1 = some R) : PC Try.prog 21 [.list 3 (m_1.map maps_Range.pv)] (.own 3 (R.map maps_Range.pv)) := by
  rw [maps_Turn] at hh
  refine start_maps_Turn rfl ?_
  refine awp_first fun K kk hK => ?_
  simp only [go_sem, ↓reduceIte, reduceCtorEq, Nat.reduceEqDiff, Nat.reduceAdd, Nat.reduceMul, Nat.reduceSub, Nat.reduceLT, Nat.reduceLeDiff, Nat.reducePow, Nat.reduceBEq, Nat.reduceBNe, Int.reduceNeg, Int.reduceBEq, Int.reduceBNe, Int.reduceAdd, Int.reduceSub, Int.reduceMul, Int.reduceLT, Int.reduceLE, Int.reduceToNat, Int.reduceEq, Int.reduceNe, List.take_length, take_map_len, runesOf_eq, runeBytes_map, an_maps_Turn, nf_maps_Turn, fp_maps_Turn, ty3, ty25, ty33, maps_Range.pv_eq, diptychref10_Range.pv_eq, pvL, List.map_nil]
  refine hK _ _ fun nx => ?_; clear hK K; try clear kk
  refine awp_first fun K kk hK => ?_
  simp only [go_sem, ↓reduceIte, reduceCtorEq, Nat.reduceEqDiff, Nat.reduceAdd, Nat.reduceMul, Nat.reduceSub, Nat.reduceLT, Nat.reduceLeDiff, Nat.reducePow, Nat.reduceBEq, Nat.reduceBNe, Int.reduceNeg, Int.reduceBEq, Int.reduceBNe, Int.reduceAdd, Int.reduceSub, Int.reduceMul, Int.reduceLT, Int.reduceLE, Int.reduceToNat, Int.reduceEq, Int.reduceNe, List.take_length, take_map_len, runesOf_eq, runeBytes_map, an_maps_Turn, nf_maps_Turn, fp_maps_Turn, ty3, ty25, ty33, maps_Range.pv_eq, diptychref10_Range.pv_eq, pvL, List.map_nil]
  refine hK _ _ fun nx => ?_; clear hK K; try clear kk
  refine awp_seq ?_
  refine awp_first fun K kk hK => ?_
  simp only [go_sem, ↓reduceIte, reduceCtorEq, Nat.reduceEqDiff, Nat.reduceAdd, Nat.reduceMul, Nat.reduceSub, Nat.reduceLT, Nat.reduceLeDiff, Nat.reducePow, Nat.reduceBEq, Nat.reduceBNe, Int.reduceNeg, Int.reduceBEq, Int.reduceBNe, Int.reduceAdd, Int.reduceSub, Int.reduceMul, Int.reduceLT, Int.reduceLE, Int.reduceToNat, Int.reduceEq, Int.reduceNe, List.take_length, take_map_len, runesOf_eq, runeBytes_map, an_maps_Turn, nf_maps_Turn, fp_maps_Turn, ty3, ty25, ty33, maps_Range.pv_eq, diptychref10_Range.pv_eq, pvL, List.map_nil]
  refine hK _ _ fun nx => ?_; clear hK K; try clear kk
  obtain ⟨e0, f0, hh⟩ := bind_ex hh
  obtain ⟨hlen0, f0⟩ := chk_some f0
  refine awp_fragE (CutTo (fun s => ∃ out_18, out_18 = e0 ∧ ∃ (v_16 : Int) (v_17 : Bool) (nx : Nat) (g3 : Nat), s = ⟨[(0, .list 3 (m_1.map maps_Range.pv)), (3, .row 3 g3 out_18.length), (6, .list 3 (m_1.map maps_Range.pv)), (7, .int .i64 (m_1.length : Int)), (8, .int .i64 v_16), (9, .bool v_17)], [(3, g3, .row false 3 (out_18.map maps_Range.pv))], nx⟩))
    (fun i s => False)
    (fun s => False) ?_ ?_ ?_ ?_
  · refine awp_block ?_
    refine awp_loopJ fun I hI => ?_
    have key : ∀ (suf pre : List maps_Range) (v_6 : Int) (out_7 : (List maps_Range)), m_1 = pre ++ suf → v_6 = (pre.length : Int) → maps_Turn_l0 m_1 suf v_6 out_7 = some e0 → ∀ (nx : Nat) (g3 : Nat), I ⟨[(0, .list 3 (m_1.map maps_Range.pv)), (3, .row 3 g3 out_7.length), (6, .list 3 (m_1.map maps_Range.pv)), (7, .int .i64 (m_1.length : Int)), (8, .int .i64 v_6)], [(3, g3, .row false 3 (out_7.map maps_Range.pv))], nx⟩ := by
      intro suf
      induction suf with
      | nil =>
        intro pre v_6 out_7 hsplit hidx hh nx g3
        rw [maps_Turn_l0] at hh
        refine hI _ ?_
        have h11 := walk_nil hsplit hidx
        refine awp_first fun K kk hK => ?_
        simp only [go_sem, ↓reduceIte, reduceCtorEq, Nat.reduceEqDiff, Nat.reduceAdd, Nat.reduceMul, Nat.reduceSub, Nat.reduceLT, Nat.reduceLeDiff, Nat.reducePow, Nat.reduceBEq, Nat.reduceBNe, Int.reduceNeg, Int.reduceBEq, Int.reduceBNe, Int.reduceAdd, Int.reduceSub, Int.reduceMul, Int.reduceLT, Int.reduceLE, Int.reduceToNat, Int.reduceEq, Int.reduceNe, List.take_length, take_map_len, runesOf_eq, runeBytes_map, an_maps_Turn, nf_maps_Turn, fp_maps_Turn, ty3, ty25, ty33, maps_Range.pv_eq, diptychref10_Range.pv_eq, pvL, List.map_nil]
        refine hK _ _ fun nx => ?_; clear hK K; try clear kk
        refine awp_seq ?_
        refine awp_false (by first | exact congrArg PV.bool h11 | rfl) ?_
        refine awp_exit ?_; (repeat (with_reducible first | refine then_n ?_ | refine then_r ?_ | refine then_e ?_ | refine block_n ?_ | refine block_r ?_ | refine exit_here ?_ | refine exit_on rfl ?_ | refine scope_n ?_ | refine scope_r ?_ | refine scope_e ?_ | refine cut_awp ?_))
        refine fragN ?_
        refine cut_id ?_
        refine ⟨_, (Option.some.inj hh), ?_⟩
        first | exact ⟨_, _, _, _, rfl⟩ | (simp only [maps_Range.pv_eq, diptychref10_Range.pv_eq, pvL, List.map_cons, List.map_nil, List.map_append]; exact ⟨_, _, _, _, rfl⟩)
      | cons y_12 suf ih =>
        intro pre v_6 out_7 hsplit hidx hh nx g3
        rw [maps_Turn_l0] at hh
        refine hI _ ?_
        obtain ⟨hl0a, hl0b, hl0d, hl0w, h11⟩ := walk_cons (f := maps_Range.pv) hsplit hidx hlen0
        refine awp_first fun K kk hK => ?_
        simp only [go_sem, ↓reduceIte, reduceCtorEq, Nat.reduceEqDiff, Nat.reduceAdd, Nat.reduceMul, Nat.reduceSub, Nat.reduceLT, Nat.reduceLeDiff, Nat.reducePow, Nat.reduceBEq, Nat.reduceBNe, Int.reduceNeg, Int.reduceBEq, Int.reduceBNe, Int.reduceAdd, Int.reduceSub, Int.reduceMul, Int.reduceLT, Int.reduceLE, Int.reduceToNat, Int.reduceEq, Int.reduceNe, List.take_length, take_map_len, runesOf_eq, runeBytes_map, an_maps_Turn, nf_maps_Turn, fp_maps_Turn, ty3, ty25, ty33, maps_Range.pv_eq, diptychref10_Range.pv_eq, pvL, List.map_nil]
        refine hK _ _ fun nx => ?_; clear hK K; try clear kk
        refine awp_seq ?_
        refine awp_true (by first | exact congrArg PV.bool h11 | rfl) ?_
        refine awp_skip ?_; (repeat (with_reducible first | refine then_n ?_ | refine then_r ?_ | refine then_e ?_ | refine block_n ?_ | refine block_r ?_ | refine exit_here ?_ | refine exit_on rfl ?_ | refine scope_n ?_ | refine scope_r ?_ | refine scope_e ?_ | refine cut_awp ?_))
        refine awp_seq ?_
        refine awp_block ?_
        refine awp_first fun K kk hK => ?_
        simp only [go_sem, ↓reduceIte, reduceCtorEq, Nat.reduceEqDiff, Nat.reduceAdd, Nat.reduceMul, Nat.reduceSub, Nat.reduceLT, Nat.reduceLeDiff, Nat.reducePow, Nat.reduceBEq, Nat.reduceBNe, Int.reduceNeg, Int.reduceBEq, Int.reduceBNe, Int.reduceAdd, Int.reduceSub, Int.reduceMul, Int.reduceLT, Int.reduceLE, Int.reduceToNat, Int.reduceEq, Int.reduceNe, List.take_length, take_map_len, runesOf_eq, runeBytes_map, an_maps_Turn, nf_maps_Turn, fp_maps_Turn, ty3, ty25, ty33, maps_Range.pv_eq, diptychref10_Range.pv_eq, pvL, List.map_nil, hl0a, hl0b, hl0d, hl0w]
        refine hK _ _ fun nx => ?_; clear hK K; try clear kk
        obtain ⟨s_13, h12, hh⟩ := bind_ex hh
        obtain ⟨h12a, h12c⟩ := sl_some h12
        have h12g := sl_le h12a
        have h12d := sl_map0 (f := maps_Range.pv) h12c
        try simp only [Int.toNat_natCast, Int.reduceToNat, List.map_cons, List.map_nil, maps_Range.pv_eq, diptychref10_Range.pv_eq, pvL] at h12d
        obtain ⟨grows_14, h13, hh⟩ := bind_ex hh
        obtain ⟨l_15, h14, hh⟩ := bind_ex hh
        obtain ⟨h14a, h14c⟩ := app_some h14
        have h14d := app_map (f := maps_Range.pv) h14c
        have h14e := app_len h14c
        try simp only [List.length_cons, List.length_nil, Nat.zero_add, Nat.reduceAdd] at h14a h14e
        try simp only [h14e] at h14a
        try simp only [List.map_cons, List.map_nil, List.nil_append, List.append_nil, List.cons_append, List.singleton_append, maps_Range.pv_eq, diptychref10_Range.pv_eq, pvL] at h14d
        refine awp_region fun K kk hK => ?_
        simp only [go_sem, ↓reduceIte, reduceCtorEq, Nat.reduceEqDiff, Nat.reduceAdd, Nat.reduceMul, Nat.reduceSub, Nat.reduceLT, Nat.reduceLeDiff, Nat.reducePow, Nat.reduceBEq, Nat.reduceBNe, Int.reduceNeg, Int.reduceBEq, Int.reduceBNe, Int.reduceAdd, Int.reduceSub, Int.reduceMul, Int.reduceLT, Int.reduceLE, Int.reduceToNat, Int.reduceEq, Int.reduceNe, List.take_length, take_map_len, runesOf_eq, runeBytes_map, an_maps_Turn, nf_maps_Turn, fp_maps_Turn, ty3, ty25, ty33, maps_Range.pv_eq, diptychref10_Range.pv_eq, pvL, List.map_nil, h12a.1, h12a.2.1, h12a.2.2, h12d, h12g, h14a, h14d, h14e, hl0a, hl0b, hl0d, hl0w]
        refine step_call2 (maps_Grows_ok _ _ h13) (by simp only [go_sem, ↓reduceIte, reduceCtorEq, Nat.reduceEqDiff, Nat.reduceAdd, Nat.reduceMul, Nat.reduceSub, Nat.reduceLT, Nat.reduceLeDiff, Nat.reducePow, Nat.reduceBEq, Nat.reduceBNe, Int.reduceNeg, Int.reduceBEq, Int.reduceBNe, Int.reduceAdd, Int.reduceSub, Int.reduceMul, Int.reduceLT, Int.reduceLE, Int.reduceToNat, Int.reduceEq, Int.reduceNe, List.take_length, take_map_len, runesOf_eq, runeBytes_map, an_maps_Turn, nf_maps_Turn, fp_maps_Turn, ty3, ty25, ty33, maps_Range.pv_eq, diptychref10_Range.pv_eq, pvL, List.map_nil, h12a.1, h12a.2.1, h12a.2.2, h12d, h12g, h14a, h14d, h14e, hl0a, hl0b, hl0d, hl0w]; (repeat (first | exact WkL.refl _ | exact Wk.refl _ | exact Wk.nil _ | refine WkL.cons _ _ _ _ ?_ ?_ | exact WkL.nil | refine Wk.agg _ _ ?_ | refine Wk.tup _ _ ?_))) (by rfl) (by rfl) ?_
        simp only [go_sem, ↓reduceIte, reduceCtorEq, Nat.reduceEqDiff, Nat.reduceAdd, Nat.reduceMul, Nat.reduceSub, Nat.reduceLT, Nat.reduceLeDiff, Nat.reducePow, Nat.reduceBEq, Nat.reduceBNe, Int.reduceNeg, Int.reduceBEq, Int.reduceBNe, Int.reduceAdd, Int.reduceSub, Int.reduceMul, Int.reduceLT, Int.reduceLE, Int.reduceToNat, Int.reduceEq, Int.reduceNe, List.take_length, take_map_len, runesOf_eq, runeBytes_map, an_maps_Turn, nf_maps_Turn, fp_maps_Turn, ty3, ty25, ty33, maps_Range.pv_eq, diptychref10_Range.pv_eq, pvL, List.map_nil, h12a.1, h12a.2.1, h12a.2.2, h12d, h12g, h14a, h14d, h14e, hl0a, hl0b, hl0d, hl0w]
        refine hK _ _ fun nx => ?_; clear hK K; try clear kk
        (repeat (with_reducible first | refine then_n ?_ | refine then_r ?_ | refine then_e ?_ | refine block_n ?_ | refine block_r ?_ | refine exit_here ?_ | refine exit_on rfl ?_ | refine scope_n ?_ | refine scope_r ?_ | refine scope_e ?_ | refine cut_awp ?_))
        refine awp_region fun K kk hK => ?_
        simp only [go_sem, ↓reduceIte, reduceCtorEq, Nat.reduceEqDiff, Nat.reduceAdd, Nat.reduceMul, Nat.reduceSub, Nat.reduceLT, Nat.reduceLeDiff, Nat.reducePow, Nat.reduceBEq, Nat.reduceBNe, Int.reduceNeg, Int.reduceBEq, Int.reduceBNe, Int.reduceAdd, Int.reduceSub, Int.reduceMul, Int.reduceLT, Int.reduceLE, Int.reduceToNat, Int.reduceEq, Int.reduceNe, List.take_length, take_map_len, runesOf_eq, runeBytes_map, an_maps_Turn, nf_maps_Turn, fp_maps_Turn, ty3, ty25, ty33, maps_Range.pv_eq, diptychref10_Range.pv_eq, pvL, List.map_nil, hl0a, hl0b, hl0d, hl0w]
        refine hK _ _ fun nx => ?_; clear hK K; try clear kk
        (repeat (with_reducible first | refine then_n ?_ | refine then_r ?_ | refine then_e ?_ | refine block_n ?_ | refine block_r ?_ | refine exit_here ?_ | refine exit_on rfl ?_ | refine scope_n ?_ | refine scope_r ?_ | refine scope_e ?_ | refine cut_awp ?_))
        have ih' := ih (pre ++ [y_12]) (v_6 + 1) _ (by rw [hsplit]; simp) (by simp [hidx]) hh nx
        refine cut_id ?_
        first | exact ih' _ | (simp only [maps_Range.pv_eq, diptychref10_Range.pv_eq, pvL, List.map_cons, List.map_nil, List.map_append, h14e] at ih' ⊢; exact ih' _)
    exact key m_1 [] _ _ rfl rfl f0 _ _
  · rintro s ⟨t, hless, out_18, rfl, v_16, v_17, nx, g3, rfl⟩
    try dsimp only at hh
    (repeat (with_reducible first | refine then_n ?_ | refine then_r ?_ | refine then_e ?_ | refine block_n ?_ | refine block_r ?_ | refine exit_here ?_ | refine exit_on rfl ?_ | refine scope_n ?_ | refine scope_r ?_ | refine scope_e ?_))
    first | (refine cut_less hless ?_; try refine cut_awp ?_) | refine frag_less hless ?_
    refine awp_first fun K kk hK => ?_
    simp only [go_sem, ↓reduceIte, reduceCtorEq, Nat.reduceEqDiff, Nat.reduceAdd, Nat.reduceMul, Nat.reduceSub, Nat.reduceLT, Nat.reduceLeDiff, Nat.reducePow, Nat.reduceBEq, Nat.reduceBNe, Int.reduceNeg, Int.reduceBEq, Int.reduceBNe, Int.reduceAdd, Int.reduceSub, Int.reduceMul, Int.reduceLT, Int.reduceLE, Int.reduceToNat, Int.reduceEq, Int.reduceNe, List.take_length, take_map_len, runesOf_eq, runeBytes_map, an_maps_Turn, nf_maps_Turn, fp_maps_Turn, ty3, ty25, ty33, maps_Range.pv_eq, diptychref10_Range.pv_eq, pvL, List.map_nil]
    refine hK _ _ fun nx => ?_; clear hK K; try clear kk
    refine awp_ret ?_; (repeat (with_reducible first | refine then_n ?_ | refine then_r ?_ | refine then_e ?_ | refine block_n ?_ | refine block_r ?_ | refine exit_here ?_ | refine exit_on rfl ?_ | refine scope_n ?_ | refine scope_r ?_ | refine scope_e ?_ | refine cut_awp ?_))
    obtain hR := Option.some.inj hh
    subst hR
    exact ret_own (by rfl) (by rfl) (by rfl) (by simp only [List.length_map, List.length_cons, List.length_nil, Nat.zero_add, Nat.reduceAdd]) (by first | rfl | (simp only [maps_Range.pv_eq, diptychref10_Range.pv_eq, pvL, List.map_cons, List.map_nil, List.map_append]; done) | (simp only [maps_Range.pv_eq, diptychref10_Range.pv_eq, pvL, List.map_cons, List.map_nil, List.map_append]; rfl))
  · intro i s h; exact h.elim
  · intro s h; exact h.elim

end Go.Proofs.Ytafcbjepmjcpgaa
