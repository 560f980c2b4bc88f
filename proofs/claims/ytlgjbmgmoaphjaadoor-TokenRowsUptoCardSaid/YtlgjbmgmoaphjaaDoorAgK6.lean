/- What the functions answer, the program answers (6). -/
import Derived.Test.YtlgjbmgmoaphjaaDoorAgC
import Derived.Test.YtlgjbmgmoaphjaaDoorAgF
import Derived.Test.YtlgjbmgmoaphjaaDoorAgK5
namespace Go.Proofs.YtlgjbmgmoaphjaaDoor
set_option linter.unusedSimpArgs false
set_option linter.unusedVariables false
open Go
set_option maxRecDepth 100000

theorem diptychref2_Head_ok (n_1 : api_Node) (R : Str) (hh : diptychref2_Head n_1 = some R) : PC Tryd.prog 56 [.agg [.str n_1.Kind, .str n_1.Text, .list 1 (n_1.Marks.map PV.str), .list 2 (n_1.Attrs.map api_Attr.pv), .list 5 (n_1.Kids.map api_Node.pv)]] (.str R) := by
  rw [diptychref2_Head] at hh
  refine start_diptychref2_Head rfl ?_
  refine awp_first fun K kk hK => ?_
  simp only [go_sem, ↓reduceIte, reduceCtorEq, Nat.reduceEqDiff, Nat.reduceAdd, Nat.reduceMul, Nat.reduceSub, Nat.reduceLT, Nat.reduceLeDiff, Nat.reducePow, Nat.reduceBEq, Nat.reduceBNe, Int.reduceNeg, Int.reduceBEq, Int.reduceBNe, Int.reduceAdd, Int.reduceSub, Int.reduceMul, Int.reduceLT, Int.reduceLE, Int.reduceToNat, Int.reduceEq, Int.reduceNe, List.take_length, take_map_len, runesOf_eq, runeBytes_map, an_diptychref2_Head, nf_diptychref2_Head, fp_diptychref2_Head, ty3, ty9, ty23, ty24, ty25, ty27, ty58, diptychlaw3_Cell.pv_eq, api_Attr.pv_eq, api_Node.pv_eq, token_Token.pv_eq, diptychref3_Token.pv_eq, pvL, List.map_nil]
  refine hK _ _ fun nx => ?_; clear hK K; try clear kk
  refine awp_first fun K kk hK => ?_
  simp only [go_sem, ↓reduceIte, reduceCtorEq, Nat.reduceEqDiff, Nat.reduceAdd, Nat.reduceMul, Nat.reduceSub, Nat.reduceLT, Nat.reduceLeDiff, Nat.reducePow, Nat.reduceBEq, Nat.reduceBNe, Int.reduceNeg, Int.reduceBEq, Int.reduceBNe, Int.reduceAdd, Int.reduceSub, Int.reduceMul, Int.reduceLT, Int.reduceLE, Int.reduceToNat, Int.reduceEq, Int.reduceNe, List.take_length, take_map_len, runesOf_eq, runeBytes_map, an_diptychref2_Head, nf_diptychref2_Head, fp_diptychref2_Head, ty3, ty9, ty23, ty24, ty25, ty27, ty58, diptychlaw3_Cell.pv_eq, api_Attr.pv_eq, api_Node.pv_eq, token_Token.pv_eq, diptychref3_Token.pv_eq, pvL, List.map_nil]
  refine hK _ _ fun nx => ?_; clear hK K; try clear kk
  refine awp_seq ?_
  refine awp_first fun K kk hK => ?_
  simp only [go_sem, ↓reduceIte, reduceCtorEq, Nat.reduceEqDiff, Nat.reduceAdd, Nat.reduceMul, Nat.reduceSub, Nat.reduceLT, Nat.reduceLeDiff, Nat.reducePow, Nat.reduceBEq, Nat.reduceBNe, Int.reduceNeg, Int.reduceBEq, Int.reduceBNe, Int.reduceAdd, Int.reduceSub, Int.reduceMul, Int.reduceLT, Int.reduceLE, Int.reduceToNat, Int.reduceEq, Int.reduceNe, List.take_length, take_map_len, runesOf_eq, runeBytes_map, an_diptychref2_Head, nf_diptychref2_Head, fp_diptychref2_Head, ty3, ty9, ty23, ty24, ty25, ty27, ty58, diptychlaw3_Cell.pv_eq, api_Attr.pv_eq, api_Node.pv_eq, token_Token.pv_eq, diptychref3_Token.pv_eq, pvL, List.map_nil]
  refine hK _ _ fun nx => ?_; clear hK K; try clear kk
  by_cases h1 : (n_1.Kind == ([116, 101, 120, 116] : Str)) = true
  · rw [if_pos h1] at hh
    refine awp_true (by first | exact congrArg PV.bool h1 | rfl) ?_
    refine awp_seq ?_
    refine awp_first fun K kk hK => ?_
    simp only [go_sem, ↓reduceIte, reduceCtorEq, Nat.reduceEqDiff, Nat.reduceAdd, Nat.reduceMul, Nat.reduceSub, Nat.reduceLT, Nat.reduceLeDiff, Nat.reducePow, Nat.reduceBEq, Nat.reduceBNe, Int.reduceNeg, Int.reduceBEq, Int.reduceBNe, Int.reduceAdd, Int.reduceSub, Int.reduceMul, Int.reduceLT, Int.reduceLE, Int.reduceToNat, Int.reduceEq, Int.reduceNe, List.take_length, take_map_len, runesOf_eq, runeBytes_map, an_diptychref2_Head, nf_diptychref2_Head, fp_diptychref2_Head, ty3, ty9, ty23, ty24, ty25, ty27, ty58, diptychlaw3_Cell.pv_eq, api_Attr.pv_eq, api_Node.pv_eq, token_Token.pv_eq, diptychref3_Token.pv_eq, pvL, List.map_nil]
    refine hK _ _ fun nx => ?_; clear hK K; try clear kk
    obtain ⟨e0, f0, hh⟩ := bind_ex hh
    obtain ⟨hlen0, f0⟩ := chk_some f0
    refine awp_fragE (CutTo (fun s => ∃ s_9, s_9 = e0 ∧ ∃ (i_10 : Int) (v_11 : Bool) (nx : Nat) (g1 : Nat), s = ⟨[(1, .box 1 g1 0), (3, .str s_9), (4, .int .i64 i_10), (13, .bool v_11)], [(1, g1, .var [.str n_1.Kind, .str n_1.Text, .list 1 (n_1.Marks.map PV.str), .list 2 (n_1.Attrs.map api_Attr.pv), .list 5 (n_1.Kids.map api_Node.pv)])], nx⟩))
      (fun i s => False)
      (fun s => False) ?_ ?_ ?_ ?_
    · refine awp_block ?_
      refine awp_loopJ fun I hI => ?_
      have key : ∀ (suf pre : List Str) (i_5 : Int) (s_4 : Str), n_1.Marks = pre ++ suf → i_5 = (pre.length : Int) → diptychref2_Head_l0 suf i_5 s_4 = some e0 → ∀ (nx : Nat) (g1 : Nat), I ⟨[(1, .box 1 g1 0), (3, .str s_4), (4, .int .i64 i_5)], [(1, g1, .var [.str n_1.Kind, .str n_1.Text, .list 1 (n_1.Marks.map PV.str), .list 2 (n_1.Attrs.map api_Attr.pv), .list 5 (n_1.Kids.map api_Node.pv)])], nx⟩ := by
        intro suf
        induction suf with
        | nil =>
          intro pre i_5 s_4 hsplit hidx hh nx g1
          rw [diptychref2_Head_l0] at hh
          refine hI _ ?_
          have h16 := walk_nil hsplit hidx
          refine awp_seq ?_
          refine awp_first fun K kk hK => ?_
          simp only [go_sem, ↓reduceIte, reduceCtorEq, Nat.reduceEqDiff, Nat.reduceAdd, Nat.reduceMul, Nat.reduceSub, Nat.reduceLT, Nat.reduceLeDiff, Nat.reducePow, Nat.reduceBEq, Nat.reduceBNe, Int.reduceNeg, Int.reduceBEq, Int.reduceBNe, Int.reduceAdd, Int.reduceSub, Int.reduceMul, Int.reduceLT, Int.reduceLE, Int.reduceToNat, Int.reduceEq, Int.reduceNe, List.take_length, take_map_len, runesOf_eq, runeBytes_map, an_diptychref2_Head, nf_diptychref2_Head, fp_diptychref2_Head, ty3, ty9, ty23, ty24, ty25, ty27, ty58, diptychlaw3_Cell.pv_eq, api_Attr.pv_eq, api_Node.pv_eq, token_Token.pv_eq, diptychref3_Token.pv_eq, pvL, List.map_nil]
          refine hK _ _ fun nx => ?_; clear hK K; try clear kk
          refine awp_false (by first | exact congrArg PV.bool h16 | rfl) ?_
          refine awp_exit ?_; (repeat (with_reducible first | refine then_n ?_ | refine then_r ?_ | refine then_e ?_ | refine block_n ?_ | refine block_r ?_ | refine exit_here ?_ | refine exit_on rfl ?_ | refine scope_n ?_ | refine scope_r ?_ | refine scope_e ?_ | refine cut_awp ?_))
          refine fragN ?_
          refine cut_id ?_
          refine ⟨_, (Option.some.inj hh), ?_⟩
          first | exact ⟨_, _, _, _, rfl⟩ | (simp only [diptychlaw3_Cell.pv_eq, api_Attr.pv_eq, api_Node.pv_eq, token_Token.pv_eq, diptychref3_Token.pv_eq, pvL, List.map_cons, List.map_nil, List.map_append, rune1]; exact ⟨_, _, _, _, rfl⟩)
        | cons y_8 suf ih =>
          intro pre i_5 s_4 hsplit hidx hh nx g1
          rw [diptychref2_Head_l0] at hh
          refine hI _ ?_
          obtain ⟨hl0a, hl0b, hl0d, hl0w, h16⟩ := walk_cons (f := PV.str) hsplit hidx hlen0
          refine awp_seq ?_
          refine awp_first fun K kk hK => ?_
          simp only [go_sem, ↓reduceIte, reduceCtorEq, Nat.reduceEqDiff, Nat.reduceAdd, Nat.reduceMul, Nat.reduceSub, Nat.reduceLT, Nat.reduceLeDiff, Nat.reducePow, Nat.reduceBEq, Nat.reduceBNe, Int.reduceNeg, Int.reduceBEq, Int.reduceBNe, Int.reduceAdd, Int.reduceSub, Int.reduceMul, Int.reduceLT, Int.reduceLE, Int.reduceToNat, Int.reduceEq, Int.reduceNe, List.take_length, take_map_len, runesOf_eq, runeBytes_map, an_diptychref2_Head, nf_diptychref2_Head, fp_diptychref2_Head, ty3, ty9, ty23, ty24, ty25, ty27, ty58, diptychlaw3_Cell.pv_eq, api_Attr.pv_eq, api_Node.pv_eq, token_Token.pv_eq, diptychref3_Token.pv_eq, pvL, List.map_nil]
          refine hK _ _ fun nx => ?_; clear hK K; try clear kk
          refine awp_true (by first | exact congrArg PV.bool h16 | rfl) ?_
          refine awp_skip ?_; (repeat (with_reducible first | refine then_n ?_ | refine then_r ?_ | refine then_e ?_ | refine block_n ?_ | refine block_r ?_ | refine exit_here ?_ | refine exit_on rfl ?_ | refine scope_n ?_ | refine scope_r ?_ | refine scope_e ?_ | refine cut_awp ?_))
          refine awp_seq ?_
          refine awp_block ?_
          refine awp_seq ?_
          refine awp_first fun K kk hK => ?_
          simp only [go_sem, ↓reduceIte, reduceCtorEq, Nat.reduceEqDiff, Nat.reduceAdd, Nat.reduceMul, Nat.reduceSub, Nat.reduceLT, Nat.reduceLeDiff, Nat.reducePow, Nat.reduceBEq, Nat.reduceBNe, Int.reduceNeg, Int.reduceBEq, Int.reduceBNe, Int.reduceAdd, Int.reduceSub, Int.reduceMul, Int.reduceLT, Int.reduceLE, Int.reduceToNat, Int.reduceEq, Int.reduceNe, List.take_length, take_map_len, runesOf_eq, runeBytes_map, an_diptychref2_Head, nf_diptychref2_Head, fp_diptychref2_Head, ty3, ty9, ty23, ty24, ty25, ty27, ty58, diptychlaw3_Cell.pv_eq, api_Attr.pv_eq, api_Node.pv_eq, token_Token.pv_eq, diptychref3_Token.pv_eq, pvL, List.map_nil, hl0a, hl0b, hl0d, hl0w]
          refine hK _ _ fun nx => ?_; clear hK K; try clear kk
          by_cases h17 : (decide (i_5 > (0 : Int))) = true
          · rw [if_pos h17] at hh
            refine awp_true (by first | exact congrArg PV.bool h17 | rfl) ?_
            obtain ⟨h18, hh⟩ := chk_some hh
            refine awp_region fun K kk hK => ?_
            simp only [go_sem, ↓reduceIte, reduceCtorEq, Nat.reduceEqDiff, Nat.reduceAdd, Nat.reduceMul, Nat.reduceSub, Nat.reduceLT, Nat.reduceLeDiff, Nat.reducePow, Nat.reduceBEq, Nat.reduceBNe, Int.reduceNeg, Int.reduceBEq, Int.reduceBNe, Int.reduceAdd, Int.reduceSub, Int.reduceMul, Int.reduceLT, Int.reduceLE, Int.reduceToNat, Int.reduceEq, Int.reduceNe, List.take_length, take_map_len, runesOf_eq, runeBytes_map, an_diptychref2_Head, nf_diptychref2_Head, fp_diptychref2_Head, ty3, ty9, ty23, ty24, ty25, ty27, ty58, diptychlaw3_Cell.pv_eq, api_Attr.pv_eq, api_Node.pv_eq, token_Token.pv_eq, diptychref3_Token.pv_eq, pvL, List.map_nil, h18, hl0a, hl0b, hl0d, hl0w]
            (repeat (refine And.intro ?_ ?_; focus (first | assumption | (try simp only [List.length_append, List.length_cons, List.length_nil] at *; omega))))
            refine hK _ _ fun nx => ?_; clear hK K; try clear kk
            (repeat (with_reducible first | refine then_n ?_ | refine then_r ?_ | refine then_e ?_ | refine block_n ?_ | refine block_r ?_ | refine exit_here ?_ | refine exit_on rfl ?_ | refine scope_n ?_ | refine scope_r ?_ | refine scope_e ?_ | refine cut_awp ?_))
            obtain ⟨h19, hh⟩ := chk_some hh
            refine awp_region fun K kk hK => ?_
            simp only [go_sem, ↓reduceIte, reduceCtorEq, Nat.reduceEqDiff, Nat.reduceAdd, Nat.reduceMul, Nat.reduceSub, Nat.reduceLT, Nat.reduceLeDiff, Nat.reducePow, Nat.reduceBEq, Nat.reduceBNe, Int.reduceNeg, Int.reduceBEq, Int.reduceBNe, Int.reduceAdd, Int.reduceSub, Int.reduceMul, Int.reduceLT, Int.reduceLE, Int.reduceToNat, Int.reduceEq, Int.reduceNe, List.take_length, take_map_len, runesOf_eq, runeBytes_map, an_diptychref2_Head, nf_diptychref2_Head, fp_diptychref2_Head, ty3, ty9, ty23, ty24, ty25, ty27, ty58, diptychlaw3_Cell.pv_eq, api_Attr.pv_eq, api_Node.pv_eq, token_Token.pv_eq, diptychref3_Token.pv_eq, pvL, List.map_nil, h19, hl0a, hl0b, hl0d, hl0w]
            (repeat (refine And.intro ?_ ?_; focus (first | assumption | (try simp only [List.length_append, List.length_cons, List.length_nil] at *; omega))))
            refine hK _ _ fun nx => ?_; clear hK K; try clear kk
            (repeat (with_reducible first | refine then_n ?_ | refine then_r ?_ | refine then_e ?_ | refine block_n ?_ | refine block_r ?_ | refine exit_here ?_ | refine exit_on rfl ?_ | refine scope_n ?_ | refine scope_r ?_ | refine scope_e ?_ | refine cut_awp ?_))
            refine awp_region fun K kk hK => ?_
            simp only [go_sem, ↓reduceIte, reduceCtorEq, Nat.reduceEqDiff, Nat.reduceAdd, Nat.reduceMul, Nat.reduceSub, Nat.reduceLT, Nat.reduceLeDiff, Nat.reducePow, Nat.reduceBEq, Nat.reduceBNe, Int.reduceNeg, Int.reduceBEq, Int.reduceBNe, Int.reduceAdd, Int.reduceSub, Int.reduceMul, Int.reduceLT, Int.reduceLE, Int.reduceToNat, Int.reduceEq, Int.reduceNe, List.take_length, take_map_len, runesOf_eq, runeBytes_map, an_diptychref2_Head, nf_diptychref2_Head, fp_diptychref2_Head, ty3, ty9, ty23, ty24, ty25, ty27, ty58, diptychlaw3_Cell.pv_eq, api_Attr.pv_eq, api_Node.pv_eq, token_Token.pv_eq, diptychref3_Token.pv_eq, pvL, List.map_nil, hl0a, hl0b, hl0d, hl0w]
            refine hK _ _ fun nx => ?_; clear hK K; try clear kk
            (repeat (with_reducible first | refine then_n ?_ | refine then_r ?_ | refine then_e ?_ | refine block_n ?_ | refine block_r ?_ | refine exit_here ?_ | refine exit_on rfl ?_ | refine scope_n ?_ | refine scope_r ?_ | refine scope_e ?_ | refine cut_awp ?_))
            have ih' := ih (pre ++ [y_8]) (i_5 + 1) _ (by rw [hsplit]; simp) (by simp [hidx]) hh nx
            refine cut_id ?_
            first | exact ih' _ | (simp only [diptychlaw3_Cell.pv_eq, api_Attr.pv_eq, api_Node.pv_eq, token_Token.pv_eq, diptychref3_Token.pv_eq, pvL, List.map_cons, List.map_nil, List.map_append, rune1] at ih' ⊢; exact ih' _)
          · rw [if_neg h17] at hh
            replace h17 := Bool.eq_false_iff.mpr h17
            refine awp_false (by first | exact congrArg PV.bool h17 | rfl) ?_
            refine awp_skip ?_; (repeat (with_reducible first | refine then_n ?_ | refine then_r ?_ | refine then_e ?_ | refine block_n ?_ | refine block_r ?_ | refine exit_here ?_ | refine exit_on rfl ?_ | refine scope_n ?_ | refine scope_r ?_ | refine scope_e ?_ | refine cut_awp ?_))
            obtain ⟨h20, hh⟩ := chk_some hh
            refine awp_region fun K kk hK => ?_
            simp only [go_sem, ↓reduceIte, reduceCtorEq, Nat.reduceEqDiff, Nat.reduceAdd, Nat.reduceMul, Nat.reduceSub, Nat.reduceLT, Nat.reduceLeDiff, Nat.reducePow, Nat.reduceBEq, Nat.reduceBNe, Int.reduceNeg, Int.reduceBEq, Int.reduceBNe, Int.reduceAdd, Int.reduceSub, Int.reduceMul, Int.reduceLT, Int.reduceLE, Int.reduceToNat, Int.reduceEq, Int.reduceNe, List.take_length, take_map_len, runesOf_eq, runeBytes_map, an_diptychref2_Head, nf_diptychref2_Head, fp_diptychref2_Head, ty3, ty9, ty23, ty24, ty25, ty27, ty58, diptychlaw3_Cell.pv_eq, api_Attr.pv_eq, api_Node.pv_eq, token_Token.pv_eq, diptychref3_Token.pv_eq, pvL, List.map_nil, h20, hl0a, hl0b, hl0d, hl0w]
            (repeat (refine And.intro ?_ ?_; focus (first | assumption | (try simp only [List.length_append, List.length_cons, List.length_nil] at *; omega))))
            refine hK _ _ fun nx => ?_; clear hK K; try clear kk
            (repeat (with_reducible first | refine then_n ?_ | refine then_r ?_ | refine then_e ?_ | refine block_n ?_ | refine block_r ?_ | refine exit_here ?_ | refine exit_on rfl ?_ | refine scope_n ?_ | refine scope_r ?_ | refine scope_e ?_ | refine cut_awp ?_))
            refine awp_region fun K kk hK => ?_
            simp only [go_sem, ↓reduceIte, reduceCtorEq, Nat.reduceEqDiff, Nat.reduceAdd, Nat.reduceMul, Nat.reduceSub, Nat.reduceLT, Nat.reduceLeDiff, Nat.reducePow, Nat.reduceBEq, Nat.reduceBNe, Int.reduceNeg, Int.reduceBEq, Int.reduceBNe, Int.reduceAdd, Int.reduceSub, Int.reduceMul, Int.reduceLT, Int.reduceLE, Int.reduceToNat, Int.reduceEq, Int.reduceNe, List.take_length, take_map_len, runesOf_eq, runeBytes_map, an_diptychref2_Head, nf_diptychref2_Head, fp_diptychref2_Head, ty3, ty9, ty23, ty24, ty25, ty27, ty58, diptychlaw3_Cell.pv_eq, api_Attr.pv_eq, api_Node.pv_eq, token_Token.pv_eq, diptychref3_Token.pv_eq, pvL, List.map_nil, hl0a, hl0b, hl0d, hl0w]
            refine hK _ _ fun nx => ?_; clear hK K; try clear kk
            (repeat (with_reducible first | refine then_n ?_ | refine then_r ?_ | refine then_e ?_ | refine block_n ?_ | refine block_r ?_ | refine exit_here ?_ | refine exit_on rfl ?_ | refine scope_n ?_ | refine scope_r ?_ | refine scope_e ?_ | refine cut_awp ?_))
            have ih' := ih (pre ++ [y_8]) (i_5 + 1) _ (by rw [hsplit]; simp) (by simp [hidx]) hh nx
            refine cut_id ?_
            first | exact ih' _ | (simp only [diptychlaw3_Cell.pv_eq, api_Attr.pv_eq, api_Node.pv_eq, token_Token.pv_eq, diptychref3_Token.pv_eq, pvL, List.map_cons, List.map_nil, List.map_append, rune1] at ih' ⊢; exact ih' _)
      exact key n_1.Marks [] _ _ rfl rfl f0 _ _
    · rintro s ⟨t, hless, s_9, rfl, i_10, v_11, nx, g1, rfl⟩
      try dsimp only at hh
      (repeat (with_reducible first | refine then_n ?_ | refine then_r ?_ | refine then_e ?_ | refine block_n ?_ | refine block_r ?_ | refine exit_here ?_ | refine exit_on rfl ?_ | refine scope_n ?_ | refine scope_r ?_ | refine scope_e ?_))
      first | (refine cut_less hless ?_; try refine cut_awp ?_) | refine frag_less hless ?_
      refine awp_seq ?_
      refine awp_first fun K kk hK => ?_
      simp only [go_sem, ↓reduceIte, reduceCtorEq, Nat.reduceEqDiff, Nat.reduceAdd, Nat.reduceMul, Nat.reduceSub, Nat.reduceLT, Nat.reduceLeDiff, Nat.reducePow, Nat.reduceBEq, Nat.reduceBNe, Int.reduceNeg, Int.reduceBEq, Int.reduceBNe, Int.reduceAdd, Int.reduceSub, Int.reduceMul, Int.reduceLT, Int.reduceLE, Int.reduceToNat, Int.reduceEq, Int.reduceNe, List.take_length, take_map_len, runesOf_eq, runeBytes_map, an_diptychref2_Head, nf_diptychref2_Head, fp_diptychref2_Head, ty3, ty9, ty23, ty24, ty25, ty27, ty58, diptychlaw3_Cell.pv_eq, api_Attr.pv_eq, api_Node.pv_eq, token_Token.pv_eq, diptychref3_Token.pv_eq, pvL, List.map_nil]
      refine hK _ _ fun nx => ?_; clear hK K; try clear kk
      by_cases h21 : (decide ((n_1.Marks.length : Int) > (0 : Int))) = true
      · rw [if_pos h21] at hh
        refine awp_true (by first | exact congrArg PV.bool h21 | rfl) ?_
        obtain ⟨h22, hh⟩ := chk_some hh
        obtain ⟨h23, hh⟩ := chk_some hh
        refine awp_region fun K kk hK => ?_
        simp only [go_sem, ↓reduceIte, reduceCtorEq, Nat.reduceEqDiff, Nat.reduceAdd, Nat.reduceMul, Nat.reduceSub, Nat.reduceLT, Nat.reduceLeDiff, Nat.reducePow, Nat.reduceBEq, Nat.reduceBNe, Int.reduceNeg, Int.reduceBEq, Int.reduceBNe, Int.reduceAdd, Int.reduceSub, Int.reduceMul, Int.reduceLT, Int.reduceLE, Int.reduceToNat, Int.reduceEq, Int.reduceNe, List.take_length, take_map_len, runesOf_eq, runeBytes_map, an_diptychref2_Head, nf_diptychref2_Head, fp_diptychref2_Head, ty3, ty9, ty23, ty24, ty25, ty27, ty58, diptychlaw3_Cell.pv_eq, api_Attr.pv_eq, api_Node.pv_eq, token_Token.pv_eq, diptychref3_Token.pv_eq, pvL, List.map_nil, h22, h23]
        (repeat (refine And.intro ?_ ?_; focus (first | assumption | (try simp only [List.length_append, List.length_cons, List.length_nil] at *; omega))))
        refine hK _ _ fun nx => ?_; clear hK K; try clear kk
        (repeat (with_reducible first | refine then_n ?_ | refine then_r ?_ | refine then_e ?_ | refine block_n ?_ | refine block_r ?_ | refine exit_here ?_ | refine exit_on rfl ?_ | refine scope_n ?_ | refine scope_r ?_ | refine scope_e ?_ | refine cut_awp ?_))
        refine awp_first fun K kk hK => ?_
        simp only [go_sem, ↓reduceIte, reduceCtorEq, Nat.reduceEqDiff, Nat.reduceAdd, Nat.reduceMul, Nat.reduceSub, Nat.reduceLT, Nat.reduceLeDiff, Nat.reducePow, Nat.reduceBEq, Nat.reduceBNe, Int.reduceNeg, Int.reduceBEq, Int.reduceBNe, Int.reduceAdd, Int.reduceSub, Int.reduceMul, Int.reduceLT, Int.reduceLE, Int.reduceToNat, Int.reduceEq, Int.reduceNe, List.take_length, take_map_len, runesOf_eq, runeBytes_map, an_diptychref2_Head, nf_diptychref2_Head, fp_diptychref2_Head, ty3, ty9, ty23, ty24, ty25, ty27, ty58, diptychlaw3_Cell.pv_eq, api_Attr.pv_eq, api_Node.pv_eq, token_Token.pv_eq, diptychref3_Token.pv_eq, pvL, List.map_nil]
        refine hK _ _ fun nx => ?_; clear hK K; try clear kk
        refine awp_ret ?_; (repeat (with_reducible first | refine then_n ?_ | refine then_r ?_ | refine then_e ?_ | refine block_n ?_ | refine block_r ?_ | refine exit_here ?_ | refine exit_on rfl ?_ | refine scope_n ?_ | refine scope_r ?_ | refine scope_e ?_ | refine cut_awp ?_))
        obtain hR := Option.some.inj hh
        subst hR
        refine ret_pure2 ?_ (by rfl)
        simp only [go_sem, ↓reduceIte, reduceCtorEq, Nat.reduceEqDiff, Nat.reduceAdd, Nat.reduceMul, Nat.reduceSub, Nat.reduceLT, Nat.reduceLeDiff, Nat.reducePow, Nat.reduceBEq, Nat.reduceBNe, Int.reduceNeg, Int.reduceBEq, Int.reduceBNe, Int.reduceAdd, Int.reduceSub, Int.reduceMul, Int.reduceLT, Int.reduceLE, Int.reduceToNat, Int.reduceEq, Int.reduceNe, List.take_length, take_map_len, runesOf_eq, runeBytes_map, an_diptychref2_Head, nf_diptychref2_Head, fp_diptychref2_Head, ty3, ty9, ty23, ty24, ty25, ty27, ty58, diptychlaw3_Cell.pv_eq, api_Attr.pv_eq, api_Node.pv_eq, token_Token.pv_eq, diptychref3_Token.pv_eq, pvL, List.map_nil, rvsRes, rvRes, cellRes, tupOf, pur2, List.map_cons, List.map_append, List.head?_cons]
        (repeat (first | exact Wk.refl _ | exact WkL.refl _ | exact Wk.nil _ | refine Wk.agg _ _ ?_ | refine Wk.tup _ _ ?_ | refine WkL.cons _ _ _ _ ?_ ?_ | exact WkL.nil))
      · rw [if_neg h21] at hh
        replace h21 := Bool.eq_false_iff.mpr h21
        refine awp_false (by first | exact congrArg PV.bool h21 | rfl) ?_
        refine awp_skip ?_; (repeat (with_reducible first | refine then_n ?_ | refine then_r ?_ | refine then_e ?_ | refine block_n ?_ | refine block_r ?_ | refine exit_here ?_ | refine exit_on rfl ?_ | refine scope_n ?_ | refine scope_r ?_ | refine scope_e ?_ | refine cut_awp ?_))
        refine awp_first fun K kk hK => ?_
        simp only [go_sem, ↓reduceIte, reduceCtorEq, Nat.reduceEqDiff, Nat.reduceAdd, Nat.reduceMul, Nat.reduceSub, Nat.reduceLT, Nat.reduceLeDiff, Nat.reducePow, Nat.reduceBEq, Nat.reduceBNe, Int.reduceNeg, Int.reduceBEq, Int.reduceBNe, Int.reduceAdd, Int.reduceSub, Int.reduceMul, Int.reduceLT, Int.reduceLE, Int.reduceToNat, Int.reduceEq, Int.reduceNe, List.take_length, take_map_len, runesOf_eq, runeBytes_map, an_diptychref2_Head, nf_diptychref2_Head, fp_diptychref2_Head, ty3, ty9, ty23, ty24, ty25, ty27, ty58, diptychlaw3_Cell.pv_eq, api_Attr.pv_eq, api_Node.pv_eq, token_Token.pv_eq, diptychref3_Token.pv_eq, pvL, List.map_nil]
        refine hK _ _ fun nx => ?_; clear hK K; try clear kk
        refine awp_ret ?_; (repeat (with_reducible first | refine then_n ?_ | refine then_r ?_ | refine then_e ?_ | refine block_n ?_ | refine block_r ?_ | refine exit_here ?_ | refine exit_on rfl ?_ | refine scope_n ?_ | refine scope_r ?_ | refine scope_e ?_ | refine cut_awp ?_))
        obtain hR := Option.some.inj hh
        subst hR
        refine ret_pure2 ?_ (by rfl)
        simp only [go_sem, ↓reduceIte, reduceCtorEq, Nat.reduceEqDiff, Nat.reduceAdd, Nat.reduceMul, Nat.reduceSub, Nat.reduceLT, Nat.reduceLeDiff, Nat.reducePow, Nat.reduceBEq, Nat.reduceBNe, Int.reduceNeg, Int.reduceBEq, Int.reduceBNe, Int.reduceAdd, Int.reduceSub, Int.reduceMul, Int.reduceLT, Int.reduceLE, Int.reduceToNat, Int.reduceEq, Int.reduceNe, List.take_length, take_map_len, runesOf_eq, runeBytes_map, an_diptychref2_Head, nf_diptychref2_Head, fp_diptychref2_Head, ty3, ty9, ty23, ty24, ty25, ty27, ty58, diptychlaw3_Cell.pv_eq, api_Attr.pv_eq, api_Node.pv_eq, token_Token.pv_eq, diptychref3_Token.pv_eq, pvL, List.map_nil, rvsRes, rvRes, cellRes, tupOf, pur2, List.map_cons, List.map_append, List.head?_cons]
        (repeat (first | exact Wk.refl _ | exact WkL.refl _ | exact Wk.nil _ | refine Wk.agg _ _ ?_ | refine Wk.tup _ _ ?_ | refine WkL.cons _ _ _ _ ?_ ?_ | exact WkL.nil))
    · intro i s h; exact h.elim
    · intro s h; exact h.elim
  · rw [if_neg h1] at hh
    replace h1 := Bool.eq_false_iff.mpr h1
    refine awp_false (by first | exact congrArg PV.bool h1 | rfl) ?_
    refine awp_skip ?_; (repeat (with_reducible first | refine then_n ?_ | refine then_r ?_ | refine then_e ?_ | refine block_n ?_ | refine block_r ?_ | refine exit_here ?_ | refine exit_on rfl ?_ | refine scope_n ?_ | refine scope_r ?_ | refine scope_e ?_ | refine cut_awp ?_))
    refine awp_seq ?_
    refine awp_first fun K kk hK => ?_
    simp only [go_sem, ↓reduceIte, reduceCtorEq, Nat.reduceEqDiff, Nat.reduceAdd, Nat.reduceMul, Nat.reduceSub, Nat.reduceLT, Nat.reduceLeDiff, Nat.reducePow, Nat.reduceBEq, Nat.reduceBNe, Int.reduceNeg, Int.reduceBEq, Int.reduceBNe, Int.reduceAdd, Int.reduceSub, Int.reduceMul, Int.reduceLT, Int.reduceLE, Int.reduceToNat, Int.reduceEq, Int.reduceNe, List.take_length, take_map_len, runesOf_eq, runeBytes_map, an_diptychref2_Head, nf_diptychref2_Head, fp_diptychref2_Head, ty3, ty9, ty23, ty24, ty25, ty27, ty58, diptychlaw3_Cell.pv_eq, api_Attr.pv_eq, api_Node.pv_eq, token_Token.pv_eq, diptychref3_Token.pv_eq, pvL, List.map_nil]
    refine hK _ _ fun nx => ?_; clear hK K; try clear kk
    obtain ⟨e1, f1, hh⟩ := bind_ex hh
    obtain ⟨hlen1, f1⟩ := chk_some f1
    refine awp_fragE (CutTo (fun s => ∃ s_25, s_25 = e1 ∧ ∃ (i_26 : Int) (v_27 : Bool) (nx : Nat) (g1 : Nat), s = ⟨[(1, .box 1 g1 0), (3, .str s_25), (5, .int .i64 i_26), (39, .bool v_27)], [(1, g1, .var [.str n_1.Kind, .str n_1.Text, .list 1 (n_1.Marks.map PV.str), .list 2 (n_1.Attrs.map api_Attr.pv), .list 5 (n_1.Kids.map api_Node.pv)])], nx⟩))
      (fun i s => False)
      (fun s => False) ?_ ?_ ?_ ?_
    · refine awp_block ?_
      refine awp_loopJ fun I hI => ?_
      have key : ∀ (suf pre : List api_Attr) (i_17 : Int) (s_16 : Str), n_1.Attrs = pre ++ suf → i_17 = (pre.length : Int) → diptychref2_Head_l1 suf i_17 s_16 = some e1 → ∀ (nx : Nat) (g1 : Nat), I ⟨[(1, .box 1 g1 0), (3, .str s_16), (5, .int .i64 i_17)], [(1, g1, .var [.str n_1.Kind, .str n_1.Text, .list 1 (n_1.Marks.map PV.str), .list 2 (n_1.Attrs.map api_Attr.pv), .list 5 (n_1.Kids.map api_Node.pv)])], nx⟩ := by
        intro suf
        induction suf with
        | nil =>
          intro pre i_17 s_16 hsplit hidx hh nx g1
          rw [diptychref2_Head_l1] at hh
          refine hI _ ?_
          have h50 := walk_nil hsplit hidx
          refine awp_seq ?_
          refine awp_first fun K kk hK => ?_
          simp only [go_sem, ↓reduceIte, reduceCtorEq, Nat.reduceEqDiff, Nat.reduceAdd, Nat.reduceMul, Nat.reduceSub, Nat.reduceLT, Nat.reduceLeDiff, Nat.reducePow, Nat.reduceBEq, Nat.reduceBNe, Int.reduceNeg, Int.reduceBEq, Int.reduceBNe, Int.reduceAdd, Int.reduceSub, Int.reduceMul, Int.reduceLT, Int.reduceLE, Int.reduceToNat, Int.reduceEq, Int.reduceNe, List.take_length, take_map_len, runesOf_eq, runeBytes_map, an_diptychref2_Head, nf_diptychref2_Head, fp_diptychref2_Head, ty3, ty9, ty23, ty24, ty25, ty27, ty58, diptychlaw3_Cell.pv_eq, api_Attr.pv_eq, api_Node.pv_eq, token_Token.pv_eq, diptychref3_Token.pv_eq, pvL, List.map_nil]
          refine hK _ _ fun nx => ?_; clear hK K; try clear kk
          refine awp_false (by first | exact congrArg PV.bool h50 | rfl) ?_
          refine awp_exit ?_; (repeat (with_reducible first | refine then_n ?_ | refine then_r ?_ | refine then_e ?_ | refine block_n ?_ | refine block_r ?_ | refine exit_here ?_ | refine exit_on rfl ?_ | refine scope_n ?_ | refine scope_r ?_ | refine scope_e ?_ | refine cut_awp ?_))
          refine fragN ?_
          refine cut_id ?_
          refine ⟨_, (Option.some.inj hh), ?_⟩
          first | exact ⟨_, _, _, _, rfl⟩ | (simp only [diptychlaw3_Cell.pv_eq, api_Attr.pv_eq, api_Node.pv_eq, token_Token.pv_eq, diptychref3_Token.pv_eq, pvL, List.map_cons, List.map_nil, List.map_append, rune1]; exact ⟨_, _, _, _, rfl⟩)
        | cons y_22 suf ih =>
          intro pre i_17 s_16 hsplit hidx hh nx g1
          rw [diptychref2_Head_l1] at hh
          refine hI _ ?_
          obtain ⟨hl1a, hl1b, hl1d, hl1w, h50⟩ := walk_cons (f := api_Attr.pv) hsplit hidx hlen1
          refine awp_seq ?_
          refine awp_first fun K kk hK => ?_
          simp only [go_sem, ↓reduceIte, reduceCtorEq, Nat.reduceEqDiff, Nat.reduceAdd, Nat.reduceMul, Nat.reduceSub, Nat.reduceLT, Nat.reduceLeDiff, Nat.reducePow, Nat.reduceBEq, Nat.reduceBNe, Int.reduceNeg, Int.reduceBEq, Int.reduceBNe, Int.reduceAdd, Int.reduceSub, Int.reduceMul, Int.reduceLT, Int.reduceLE, Int.reduceToNat, Int.reduceEq, Int.reduceNe, List.take_length, take_map_len, runesOf_eq, runeBytes_map, an_diptychref2_Head, nf_diptychref2_Head, fp_diptychref2_Head, ty3, ty9, ty23, ty24, ty25, ty27, ty58, diptychlaw3_Cell.pv_eq, api_Attr.pv_eq, api_Node.pv_eq, token_Token.pv_eq, diptychref3_Token.pv_eq, pvL, List.map_nil]
          refine hK _ _ fun nx => ?_; clear hK K; try clear kk
          refine awp_true (by first | exact congrArg PV.bool h50 | rfl) ?_
          refine awp_skip ?_; (repeat (with_reducible first | refine then_n ?_ | refine then_r ?_ | refine then_e ?_ | refine block_n ?_ | refine block_r ?_ | refine exit_here ?_ | refine exit_on rfl ?_ | refine scope_n ?_ | refine scope_r ?_ | refine scope_e ?_ | refine cut_awp ?_))
          refine awp_seq ?_
          refine awp_block ?_
          refine awp_seq ?_
          refine awp_first fun K kk hK => ?_
          simp only [go_sem, ↓reduceIte, reduceCtorEq, Nat.reduceEqDiff, Nat.reduceAdd, Nat.reduceMul, Nat.reduceSub, Nat.reduceLT, Nat.reduceLeDiff, Nat.reducePow, Nat.reduceBEq, Nat.reduceBNe, Int.reduceNeg, Int.reduceBEq, Int.reduceBNe, Int.reduceAdd, Int.reduceSub, Int.reduceMul, Int.reduceLT, Int.reduceLE, Int.reduceToNat, Int.reduceEq, Int.reduceNe, List.take_length, take_map_len, runesOf_eq, runeBytes_map, an_diptychref2_Head, nf_diptychref2_Head, fp_diptychref2_Head, ty3, ty9, ty23, ty24, ty25, ty27, ty58, diptychlaw3_Cell.pv_eq, api_Attr.pv_eq, api_Node.pv_eq, token_Token.pv_eq, diptychref3_Token.pv_eq, pvL, List.map_nil, hl1a, hl1b, hl1d, hl1w]
          refine hK _ _ fun nx => ?_; clear hK K; try clear kk
          by_cases h51 : (decide (i_17 > (0 : Int))) = true
          · rw [if_pos h51] at hh
            refine awp_true (by first | exact congrArg PV.bool h51 | rfl) ?_
            obtain ⟨h52, hh⟩ := chk_some hh
            refine awp_region fun K kk hK => ?_
            simp only [go_sem, ↓reduceIte, reduceCtorEq, Nat.reduceEqDiff, Nat.reduceAdd, Nat.reduceMul, Nat.reduceSub, Nat.reduceLT, Nat.reduceLeDiff, Nat.reducePow, Nat.reduceBEq, Nat.reduceBNe, Int.reduceNeg, Int.reduceBEq, Int.reduceBNe, Int.reduceAdd, Int.reduceSub, Int.reduceMul, Int.reduceLT, Int.reduceLE, Int.reduceToNat, Int.reduceEq, Int.reduceNe, List.take_length, take_map_len, runesOf_eq, runeBytes_map, an_diptychref2_Head, nf_diptychref2_Head, fp_diptychref2_Head, ty3, ty9, ty23, ty24, ty25, ty27, ty58, diptychlaw3_Cell.pv_eq, api_Attr.pv_eq, api_Node.pv_eq, token_Token.pv_eq, diptychref3_Token.pv_eq, pvL, List.map_nil, h52, hl1a, hl1b, hl1d, hl1w]
            (repeat (refine And.intro ?_ ?_; focus (first | assumption | (try simp only [List.length_append, List.length_cons, List.length_nil] at *; omega))))
            refine hK _ _ fun nx => ?_; clear hK K; try clear kk
            (repeat (with_reducible first | refine then_n ?_ | refine then_r ?_ | refine then_e ?_ | refine block_n ?_ | refine block_r ?_ | refine exit_here ?_ | refine exit_on rfl ?_ | refine scope_n ?_ | refine scope_r ?_ | refine scope_e ?_ | refine cut_awp ?_))
            obtain ⟨h53, hh⟩ := chk_some hh
            obtain ⟨h54, hh⟩ := chk_some hh
            obtain ⟨quote_23, h55, hh⟩ := bind_ex hh
            obtain ⟨h56, hh⟩ := chk_some hh
            refine awp_region fun K kk hK => ?_
            simp only [go_sem, ↓reduceIte, reduceCtorEq, Nat.reduceEqDiff, Nat.reduceAdd, Nat.reduceMul, Nat.reduceSub, Nat.reduceLT, Nat.reduceLeDiff, Nat.reducePow, Nat.reduceBEq, Nat.reduceBNe, Int.reduceNeg, Int.reduceBEq, Int.reduceBNe, Int.reduceAdd, Int.reduceSub, Int.reduceMul, Int.reduceLT, Int.reduceLE, Int.reduceToNat, Int.reduceEq, Int.reduceNe, List.take_length, take_map_len, runesOf_eq, runeBytes_map, an_diptychref2_Head, nf_diptychref2_Head, fp_diptychref2_Head, ty3, ty9, ty23, ty24, ty25, ty27, ty58, diptychlaw3_Cell.pv_eq, api_Attr.pv_eq, api_Node.pv_eq, token_Token.pv_eq, diptychref3_Token.pv_eq, pvL, List.map_nil, h53, h54, h56, hl1a, hl1b, hl1d, hl1w]
            (repeat (refine And.intro ?_ ?_; focus (first | assumption | (try simp only [List.length_append, List.length_cons, List.length_nil] at *; omega))))
            refine step_call2 (diptychref2_Quote_ok _ _ h55) (by try simp only [go_sem, ↓reduceIte, reduceCtorEq, Nat.reduceEqDiff, Nat.reduceAdd, Nat.reduceMul, Nat.reduceSub, Nat.reduceLT, Nat.reduceLeDiff, Nat.reducePow, Nat.reduceBEq, Nat.reduceBNe, Int.reduceNeg, Int.reduceBEq, Int.reduceBNe, Int.reduceAdd, Int.reduceSub, Int.reduceMul, Int.reduceLT, Int.reduceLE, Int.reduceToNat, Int.reduceEq, Int.reduceNe, List.take_length, take_map_len, runesOf_eq, runeBytes_map, an_diptychref2_Head, nf_diptychref2_Head, fp_diptychref2_Head, ty3, ty9, ty23, ty24, ty25, ty27, ty58, diptychlaw3_Cell.pv_eq, api_Attr.pv_eq, api_Node.pv_eq, token_Token.pv_eq, diptychref3_Token.pv_eq, pvL, List.map_nil, h53, h54, h56, hl1a, hl1b, hl1d, hl1w]; (repeat (first | exact WkL.refl _ | exact Wk.refl _ | exact Wk.nil _ | refine WkL.cons _ _ _ _ ?_ ?_ | exact WkL.nil | refine Wk.agg _ _ ?_ | refine Wk.tup _ _ ?_))) (by rfl) (by rfl) ?_
            simp only [go_sem, ↓reduceIte, reduceCtorEq, Nat.reduceEqDiff, Nat.reduceAdd, Nat.reduceMul, Nat.reduceSub, Nat.reduceLT, Nat.reduceLeDiff, Nat.reducePow, Nat.reduceBEq, Nat.reduceBNe, Int.reduceNeg, Int.reduceBEq, Int.reduceBNe, Int.reduceAdd, Int.reduceSub, Int.reduceMul, Int.reduceLT, Int.reduceLE, Int.reduceToNat, Int.reduceEq, Int.reduceNe, List.take_length, take_map_len, runesOf_eq, runeBytes_map, an_diptychref2_Head, nf_diptychref2_Head, fp_diptychref2_Head, ty3, ty9, ty23, ty24, ty25, ty27, ty58, diptychlaw3_Cell.pv_eq, api_Attr.pv_eq, api_Node.pv_eq, token_Token.pv_eq, diptychref3_Token.pv_eq, pvL, List.map_nil, h53, h54, h56, hl1a, hl1b, hl1d, hl1w]
            (repeat (refine And.intro ?_ ?_; focus (first | assumption | (try simp only [List.length_append, List.length_cons, List.length_nil] at *; omega))))
            refine hK _ _ fun nx => ?_; clear hK K; try clear kk
            (repeat (with_reducible first | refine then_n ?_ | refine then_r ?_ | refine then_e ?_ | refine block_n ?_ | refine block_r ?_ | refine exit_here ?_ | refine exit_on rfl ?_ | refine scope_n ?_ | refine scope_r ?_ | refine scope_e ?_ | refine cut_awp ?_))
            refine awp_region fun K kk hK => ?_
            simp only [go_sem, ↓reduceIte, reduceCtorEq, Nat.reduceEqDiff, Nat.reduceAdd, Nat.reduceMul, Nat.reduceSub, Nat.reduceLT, Nat.reduceLeDiff, Nat.reducePow, Nat.reduceBEq, Nat.reduceBNe, Int.reduceNeg, Int.reduceBEq, Int.reduceBNe, Int.reduceAdd, Int.reduceSub, Int.reduceMul, Int.reduceLT, Int.reduceLE, Int.reduceToNat, Int.reduceEq, Int.reduceNe, List.take_length, take_map_len, runesOf_eq, runeBytes_map, an_diptychref2_Head, nf_diptychref2_Head, fp_diptychref2_Head, ty3, ty9, ty23, ty24, ty25, ty27, ty58, diptychlaw3_Cell.pv_eq, api_Attr.pv_eq, api_Node.pv_eq, token_Token.pv_eq, diptychref3_Token.pv_eq, pvL, List.map_nil, hl1a, hl1b, hl1d, hl1w]
            refine hK _ _ fun nx => ?_; clear hK K; try clear kk
            (repeat (with_reducible first | refine then_n ?_ | refine then_r ?_ | refine then_e ?_ | refine block_n ?_ | refine block_r ?_ | refine exit_here ?_ | refine exit_on rfl ?_ | refine scope_n ?_ | refine scope_r ?_ | refine scope_e ?_ | refine cut_awp ?_))
            have ih' := ih (pre ++ [y_22]) (i_17 + 1) _ (by rw [hsplit]; simp) (by simp [hidx]) hh nx
            refine cut_id ?_
            first | exact ih' _ | (simp only [diptychlaw3_Cell.pv_eq, api_Attr.pv_eq, api_Node.pv_eq, token_Token.pv_eq, diptychref3_Token.pv_eq, pvL, List.map_cons, List.map_nil, List.map_append, rune1] at ih' ⊢; exact ih' _)
          · rw [if_neg h51] at hh
            replace h51 := Bool.eq_false_iff.mpr h51
            refine awp_false (by first | exact congrArg PV.bool h51 | rfl) ?_
            refine awp_skip ?_; (repeat (with_reducible first | refine then_n ?_ | refine then_r ?_ | refine then_e ?_ | refine block_n ?_ | refine block_r ?_ | refine exit_here ?_ | refine exit_on rfl ?_ | refine scope_n ?_ | refine scope_r ?_ | refine scope_e ?_ | refine cut_awp ?_))
            obtain ⟨h57, hh⟩ := chk_some hh
            obtain ⟨h58, hh⟩ := chk_some hh
            obtain ⟨quote_24, h59, hh⟩ := bind_ex hh
            obtain ⟨h60, hh⟩ := chk_some hh
            refine awp_region fun K kk hK => ?_
            simp only [go_sem, ↓reduceIte, reduceCtorEq, Nat.reduceEqDiff, Nat.reduceAdd, Nat.reduceMul, Nat.reduceSub, Nat.reduceLT, Nat.reduceLeDiff, Nat.reducePow, Nat.reduceBEq, Nat.reduceBNe, Int.reduceNeg, Int.reduceBEq, Int.reduceBNe, Int.reduceAdd, Int.reduceSub, Int.reduceMul, Int.reduceLT, Int.reduceLE, Int.reduceToNat, Int.reduceEq, Int.reduceNe, List.take_length, take_map_len, runesOf_eq, runeBytes_map, an_diptychref2_Head, nf_diptychref2_Head, fp_diptychref2_Head, ty3, ty9, ty23, ty24, ty25, ty27, ty58, diptychlaw3_Cell.pv_eq, api_Attr.pv_eq, api_Node.pv_eq, token_Token.pv_eq, diptychref3_Token.pv_eq, pvL, List.map_nil, h57, h58, h60, hl1a, hl1b, hl1d, hl1w]
            (repeat (refine And.intro ?_ ?_; focus (first | assumption | (try simp only [List.length_append, List.length_cons, List.length_nil] at *; omega))))
            refine step_call2 (diptychref2_Quote_ok _ _ h59) (by try simp only [go_sem, ↓reduceIte, reduceCtorEq, Nat.reduceEqDiff, Nat.reduceAdd, Nat.reduceMul, Nat.reduceSub, Nat.reduceLT, Nat.reduceLeDiff, Nat.reducePow, Nat.reduceBEq, Nat.reduceBNe, Int.reduceNeg, Int.reduceBEq, Int.reduceBNe, Int.reduceAdd, Int.reduceSub, Int.reduceMul, Int.reduceLT, Int.reduceLE, Int.reduceToNat, Int.reduceEq, Int.reduceNe, List.take_length, take_map_len, runesOf_eq, runeBytes_map, an_diptychref2_Head, nf_diptychref2_Head, fp_diptychref2_Head, ty3, ty9, ty23, ty24, ty25, ty27, ty58, diptychlaw3_Cell.pv_eq, api_Attr.pv_eq, api_Node.pv_eq, token_Token.pv_eq, diptychref3_Token.pv_eq, pvL, List.map_nil, h57, h58, h60, hl1a, hl1b, hl1d, hl1w]; (repeat (first | exact WkL.refl _ | exact Wk.refl _ | exact Wk.nil _ | refine WkL.cons _ _ _ _ ?_ ?_ | exact WkL.nil | refine Wk.agg _ _ ?_ | refine Wk.tup _ _ ?_))) (by rfl) (by rfl) ?_
            simp only [go_sem, ↓reduceIte, reduceCtorEq, Nat.reduceEqDiff, Nat.reduceAdd, Nat.reduceMul, Nat.reduceSub, Nat.reduceLT, Nat.reduceLeDiff, Nat.reducePow, Nat.reduceBEq, Nat.reduceBNe, Int.reduceNeg, Int.reduceBEq, Int.reduceBNe, Int.reduceAdd, Int.reduceSub, Int.reduceMul, Int.reduceLT, Int.reduceLE, Int.reduceToNat, Int.reduceEq, Int.reduceNe, List.take_length, take_map_len, runesOf_eq, runeBytes_map, an_diptychref2_Head, nf_diptychref2_Head, fp_diptychref2_Head, ty3, ty9, ty23, ty24, ty25, ty27, ty58, diptychlaw3_Cell.pv_eq, api_Attr.pv_eq, api_Node.pv_eq, token_Token.pv_eq, diptychref3_Token.pv_eq, pvL, List.map_nil, h57, h58, h60, hl1a, hl1b, hl1d, hl1w]
            (repeat (refine And.intro ?_ ?_; focus (first | assumption | (try simp only [List.length_append, List.length_cons, List.length_nil] at *; omega))))
            refine hK _ _ fun nx => ?_; clear hK K; try clear kk
            (repeat (with_reducible first | refine then_n ?_ | refine then_r ?_ | refine then_e ?_ | refine block_n ?_ | refine block_r ?_ | refine exit_here ?_ | refine exit_on rfl ?_ | refine scope_n ?_ | refine scope_r ?_ | refine scope_e ?_ | refine cut_awp ?_))
            refine awp_region fun K kk hK => ?_
            simp only [go_sem, ↓reduceIte, reduceCtorEq, Nat.reduceEqDiff, Nat.reduceAdd, Nat.reduceMul, Nat.reduceSub, Nat.reduceLT, Nat.reduceLeDiff, Nat.reducePow, Nat.reduceBEq, Nat.reduceBNe, Int.reduceNeg, Int.reduceBEq, Int.reduceBNe, Int.reduceAdd, Int.reduceSub, Int.reduceMul, Int.reduceLT, Int.reduceLE, Int.reduceToNat, Int.reduceEq, Int.reduceNe, List.take_length, take_map_len, runesOf_eq, runeBytes_map, an_diptychref2_Head, nf_diptychref2_Head, fp_diptychref2_Head, ty3, ty9, ty23, ty24, ty25, ty27, ty58, diptychlaw3_Cell.pv_eq, api_Attr.pv_eq, api_Node.pv_eq, token_Token.pv_eq, diptychref3_Token.pv_eq, pvL, List.map_nil, hl1a, hl1b, hl1d, hl1w]
            refine hK _ _ fun nx => ?_; clear hK K; try clear kk
            (repeat (with_reducible first | refine then_n ?_ | refine then_r ?_ | refine then_e ?_ | refine block_n ?_ | refine block_r ?_ | refine exit_here ?_ | refine exit_on rfl ?_ | refine scope_n ?_ | refine scope_r ?_ | refine scope_e ?_ | refine cut_awp ?_))
            have ih' := ih (pre ++ [y_22]) (i_17 + 1) _ (by rw [hsplit]; simp) (by simp [hidx]) hh nx
            refine cut_id ?_
            first | exact ih' _ | (simp only [diptychlaw3_Cell.pv_eq, api_Attr.pv_eq, api_Node.pv_eq, token_Token.pv_eq, diptychref3_Token.pv_eq, pvL, List.map_cons, List.map_nil, List.map_append, rune1] at ih' ⊢; exact ih' _)
      exact key n_1.Attrs [] _ _ rfl rfl f1 _ _
    · rintro s ⟨t, hless, s_25, rfl, i_26, v_27, nx, g1, rfl⟩
      try dsimp only at hh
      (repeat (with_reducible first | refine then_n ?_ | refine then_r ?_ | refine then_e ?_ | refine block_n ?_ | refine block_r ?_ | refine exit_here ?_ | refine exit_on rfl ?_ | refine scope_n ?_ | refine scope_r ?_ | refine scope_e ?_))
      first | (refine cut_less hless ?_; try refine cut_awp ?_) | refine frag_less hless ?_
      refine awp_seq ?_
      refine awp_first fun K kk hK => ?_
      simp only [go_sem, ↓reduceIte, reduceCtorEq, Nat.reduceEqDiff, Nat.reduceAdd, Nat.reduceMul, Nat.reduceSub, Nat.reduceLT, Nat.reduceLeDiff, Nat.reducePow, Nat.reduceBEq, Nat.reduceBNe, Int.reduceNeg, Int.reduceBEq, Int.reduceBNe, Int.reduceAdd, Int.reduceSub, Int.reduceMul, Int.reduceLT, Int.reduceLE, Int.reduceToNat, Int.reduceEq, Int.reduceNe, List.take_length, take_map_len, runesOf_eq, runeBytes_map, an_diptychref2_Head, nf_diptychref2_Head, fp_diptychref2_Head, ty3, ty9, ty23, ty24, ty25, ty27, ty58, diptychlaw3_Cell.pv_eq, api_Attr.pv_eq, api_Node.pv_eq, token_Token.pv_eq, diptychref3_Token.pv_eq, pvL, List.map_nil]
      refine hK _ _ fun nx => ?_; clear hK K; try clear kk
      by_cases h61 : (decide ((n_1.Attrs.length : Int) > (0 : Int))) = true
      · rw [if_pos h61] at hh
        refine awp_true (by first | exact congrArg PV.bool h61 | rfl) ?_
        obtain ⟨h62, hh⟩ := chk_some hh
        obtain ⟨h63, hh⟩ := chk_some hh
        refine awp_region fun K kk hK => ?_
        simp only [go_sem, ↓reduceIte, reduceCtorEq, Nat.reduceEqDiff, Nat.reduceAdd, Nat.reduceMul, Nat.reduceSub, Nat.reduceLT, Nat.reduceLeDiff, Nat.reducePow, Nat.reduceBEq, Nat.reduceBNe, Int.reduceNeg, Int.reduceBEq, Int.reduceBNe, Int.reduceAdd, Int.reduceSub, Int.reduceMul, Int.reduceLT, Int.reduceLE, Int.reduceToNat, Int.reduceEq, Int.reduceNe, List.take_length, take_map_len, runesOf_eq, runeBytes_map, an_diptychref2_Head, nf_diptychref2_Head, fp_diptychref2_Head, ty3, ty9, ty23, ty24, ty25, ty27, ty58, diptychlaw3_Cell.pv_eq, api_Attr.pv_eq, api_Node.pv_eq, token_Token.pv_eq, diptychref3_Token.pv_eq, pvL, List.map_nil, h62, h63]
        (repeat (refine And.intro ?_ ?_; focus (first | assumption | (try simp only [List.length_append, List.length_cons, List.length_nil] at *; omega))))
        refine hK _ _ fun nx => ?_; clear hK K; try clear kk
        (repeat (with_reducible first | refine then_n ?_ | refine then_r ?_ | refine then_e ?_ | refine block_n ?_ | refine block_r ?_ | refine exit_here ?_ | refine exit_on rfl ?_ | refine scope_n ?_ | refine scope_r ?_ | refine scope_e ?_ | refine cut_awp ?_))
        obtain ⟨h64, hh⟩ := chk_some hh
        refine awp_first fun K kk hK => ?_
        simp only [go_sem, ↓reduceIte, reduceCtorEq, Nat.reduceEqDiff, Nat.reduceAdd, Nat.reduceMul, Nat.reduceSub, Nat.reduceLT, Nat.reduceLeDiff, Nat.reducePow, Nat.reduceBEq, Nat.reduceBNe, Int.reduceNeg, Int.reduceBEq, Int.reduceBNe, Int.reduceAdd, Int.reduceSub, Int.reduceMul, Int.reduceLT, Int.reduceLE, Int.reduceToNat, Int.reduceEq, Int.reduceNe, List.take_length, take_map_len, runesOf_eq, runeBytes_map, an_diptychref2_Head, nf_diptychref2_Head, fp_diptychref2_Head, ty3, ty9, ty23, ty24, ty25, ty27, ty58, diptychlaw3_Cell.pv_eq, api_Attr.pv_eq, api_Node.pv_eq, token_Token.pv_eq, diptychref3_Token.pv_eq, pvL, List.map_nil, h64]
        (repeat (refine And.intro ?_ ?_; focus (first | assumption | (try simp only [List.length_append, List.length_cons, List.length_nil] at *; omega))))
        refine hK _ _ fun nx => ?_; clear hK K; try clear kk
        refine awp_ret ?_; (repeat (with_reducible first | refine then_n ?_ | refine then_r ?_ | refine then_e ?_ | refine block_n ?_ | refine block_r ?_ | refine exit_here ?_ | refine exit_on rfl ?_ | refine scope_n ?_ | refine scope_r ?_ | refine scope_e ?_ | refine cut_awp ?_))
        obtain hR := Option.some.inj hh
        subst hR
        refine ret_pure2 ?_ (by rfl)
        simp only [go_sem, ↓reduceIte, reduceCtorEq, Nat.reduceEqDiff, Nat.reduceAdd, Nat.reduceMul, Nat.reduceSub, Nat.reduceLT, Nat.reduceLeDiff, Nat.reducePow, Nat.reduceBEq, Nat.reduceBNe, Int.reduceNeg, Int.reduceBEq, Int.reduceBNe, Int.reduceAdd, Int.reduceSub, Int.reduceMul, Int.reduceLT, Int.reduceLE, Int.reduceToNat, Int.reduceEq, Int.reduceNe, List.take_length, take_map_len, runesOf_eq, runeBytes_map, an_diptychref2_Head, nf_diptychref2_Head, fp_diptychref2_Head, ty3, ty9, ty23, ty24, ty25, ty27, ty58, diptychlaw3_Cell.pv_eq, api_Attr.pv_eq, api_Node.pv_eq, token_Token.pv_eq, diptychref3_Token.pv_eq, pvL, List.map_nil, rvsRes, rvRes, cellRes, tupOf, pur2, List.map_cons, List.map_append, List.head?_cons]
        (repeat (first | exact Wk.refl _ | exact WkL.refl _ | exact Wk.nil _ | refine Wk.agg _ _ ?_ | refine Wk.tup _ _ ?_ | refine WkL.cons _ _ _ _ ?_ ?_ | exact WkL.nil))
      · rw [if_neg h61] at hh
        replace h61 := Bool.eq_false_iff.mpr h61
        refine awp_false (by first | exact congrArg PV.bool h61 | rfl) ?_
        refine awp_skip ?_; (repeat (with_reducible first | refine then_n ?_ | refine then_r ?_ | refine then_e ?_ | refine block_n ?_ | refine block_r ?_ | refine exit_here ?_ | refine exit_on rfl ?_ | refine scope_n ?_ | refine scope_r ?_ | refine scope_e ?_ | refine cut_awp ?_))
        obtain ⟨h65, hh⟩ := chk_some hh
        refine awp_first fun K kk hK => ?_
        simp only [go_sem, ↓reduceIte, reduceCtorEq, Nat.reduceEqDiff, Nat.reduceAdd, Nat.reduceMul, Nat.reduceSub, Nat.reduceLT, Nat.reduceLeDiff, Nat.reducePow, Nat.reduceBEq, Nat.reduceBNe, Int.reduceNeg, Int.reduceBEq, Int.reduceBNe, Int.reduceAdd, Int.reduceSub, Int.reduceMul, Int.reduceLT, Int.reduceLE, Int.reduceToNat, Int.reduceEq, Int.reduceNe, List.take_length, take_map_len, runesOf_eq, runeBytes_map, an_diptychref2_Head, nf_diptychref2_Head, fp_diptychref2_Head, ty3, ty9, ty23, ty24, ty25, ty27, ty58, diptychlaw3_Cell.pv_eq, api_Attr.pv_eq, api_Node.pv_eq, token_Token.pv_eq, diptychref3_Token.pv_eq, pvL, List.map_nil, h65]
        (repeat (refine And.intro ?_ ?_; focus (first | assumption | (try simp only [List.length_append, List.length_cons, List.length_nil] at *; omega))))
        refine hK _ _ fun nx => ?_; clear hK K; try clear kk
        refine awp_ret ?_; (repeat (with_reducible first | refine then_n ?_ | refine then_r ?_ | refine then_e ?_ | refine block_n ?_ | refine block_r ?_ | refine exit_here ?_ | refine exit_on rfl ?_ | refine scope_n ?_ | refine scope_r ?_ | refine scope_e ?_ | refine cut_awp ?_))
        obtain hR := Option.some.inj hh
        subst hR
        refine ret_pure2 ?_ (by rfl)
        simp only [go_sem, ↓reduceIte, reduceCtorEq, Nat.reduceEqDiff, Nat.reduceAdd, Nat.reduceMul, Nat.reduceSub, Nat.reduceLT, Nat.reduceLeDiff, Nat.reducePow, Nat.reduceBEq, Nat.reduceBNe, Int.reduceNeg, Int.reduceBEq, Int.reduceBNe, Int.reduceAdd, Int.reduceSub, Int.reduceMul, Int.reduceLT, Int.reduceLE, Int.reduceToNat, Int.reduceEq, Int.reduceNe, List.take_length, take_map_len, runesOf_eq, runeBytes_map, an_diptychref2_Head, nf_diptychref2_Head, fp_diptychref2_Head, ty3, ty9, ty23, ty24, ty25, ty27, ty58, diptychlaw3_Cell.pv_eq, api_Attr.pv_eq, api_Node.pv_eq, token_Token.pv_eq, diptychref3_Token.pv_eq, pvL, List.map_nil, rvsRes, rvRes, cellRes, tupOf, pur2, List.map_cons, List.map_append, List.head?_cons]
        (repeat (first | exact Wk.refl _ | exact WkL.refl _ | exact Wk.nil _ | refine Wk.agg _ _ ?_ | refine Wk.tup _ _ ?_ | refine WkL.cons _ _ _ _ ?_ ?_ | exact WkL.nil))
    · intro i s h; exact h.elim
    · intro s h; exact h.elim

end Go.Proofs.YtlgjbmgmoaphjaaDoor
