/- What the functions answer, the program answers (1). -/
import Derived.Test.YtlgjbmgmoaphjaaDoorAgC
import Derived.Test.YtlgjbmgmoaphjaaDoorAgF
import Derived.Test.YtlgjbmgmoaphjaaDoorAgK0
namespace Go.Proofs.YtlgjbmgmoaphjaaDoor
set_option linter.unusedSimpArgs false
set_option linter.unusedVariables false
open Go
set_option maxRecDepth 100000

theorem diptychlaw3_TokenEnds_ok (a_1 : (List diptychlaw3_Cell)) (b_2 : (List diptychlaw3_Cell)) (R : Bool) (hh : diptychlaw3_TokenEnds a_1 b_2 = some R) : PC Tryd.prog 4 [.list 3 (a_1.map diptychlaw3_Cell.pv), .list 3 (b_2.map diptychlaw3_Cell.pv)] (.bool R) := by
  rw [diptychlaw3_TokenEnds] at hh
  refine start_diptychlaw3_TokenEnds rfl ?_
  refine awp_first fun K kk hK => ?_
  simp only [go_sem]
  refine hK _ _ fun nx => ?_; clear hK K; try clear kk
  obtain ⟨shown_3, h1, hh⟩ := bind_ex hh
  refine awp_first fun K kk hK => ?_
  simp only [go_sem]
  refine step_call2 (diptychlaw3_shown_ok _ h1) (by try simp only [go_sem]; (repeat (first | exact WkL.refl _ | exact Wk.refl _ | exact Wk.nil _ | refine WkL.cons _ _ _ _ ?_ ?_ | exact WkL.nil | refine Wk.agg _ _ ?_ | refine Wk.tup _ _ ?_))) (by rfl) (by rfl) ?_
  simp only [go_sem]
  refine hK _ _ fun nx => ?_; clear hK K; try clear kk
  refine awp_seq ?_
  refine awp_first fun K kk hK => ?_
  simp only [go_sem]
  refine hK _ _ fun nx => ?_; clear hK K; try clear kk
  by_cases h2 : (!shown_3) = true
  · rw [if_pos h2] at hh
    refine awp_true (by first | exact congrArg PV.bool h2 | rfl) ?_
    refine awp_first fun K kk hK => ?_
    simp only [go_sem]
    refine hK _ _ fun nx => ?_; clear hK K; try clear kk
    refine awp_ret ?_; (repeat (with_reducible first | refine then_n ?_ | refine then_r ?_ | refine then_e ?_ | refine block_n ?_ | refine block_r ?_ | refine exit_here ?_ | refine exit_on rfl ?_ | refine scope_n ?_ | refine scope_r ?_ | refine scope_e ?_ | refine cut_awp ?_))
    obtain hR := Option.some.inj hh
    subst hR
    refine ret_pure2 ?_ (by rfl)
    simp only [go_sem, rvsRes, rvRes, cellRes, tupOf, pur2, List.map_cons, List.map_append, List.head?_cons]
    (repeat (first | exact Wk.refl _ | exact WkL.refl _ | exact Wk.nil _ | refine Wk.agg _ _ ?_ | refine Wk.tup _ _ ?_ | refine WkL.cons _ _ _ _ ?_ ?_ | exact WkL.nil))
  · rw [if_neg h2] at hh
    replace h2 := Bool.eq_false_iff.mpr h2
    refine awp_false (by first | exact congrArg PV.bool h2 | rfl) ?_
    refine awp_skip ?_; (repeat (with_reducible first | refine then_n ?_ | refine then_r ?_ | refine then_e ?_ | refine block_n ?_ | refine block_r ?_ | refine exit_here ?_ | refine exit_on rfl ?_ | refine scope_n ?_ | refine scope_r ?_ | refine scope_e ?_ | refine cut_awp ?_))
    obtain ⟨made_4, h3, hh⟩ := bind_ex hh
    obtain ⟨of_5, h4, hh⟩ := bind_ex hh
    refine awp_first fun K kk hK => ?_
    simp only [go_sem]
    refine step_call2 (diptychlaw3_made_ok _ _ h3) (by try simp only [go_sem]; (repeat (first | exact WkL.refl _ | exact Wk.refl _ | exact Wk.nil _ | refine WkL.cons _ _ _ _ ?_ ?_ | exact WkL.nil | refine Wk.agg _ _ ?_ | refine Wk.tup _ _ ?_))) (by rfl) (by rfl) ?_
    simp only [go_sem]
    refine step_call2 (token_Of_ok _ _ h4).list (by try simp only [go_sem]; (repeat (first | exact WkL.refl _ | exact Wk.refl _ | exact Wk.nil _ | refine WkL.cons _ _ _ _ ?_ ?_ | exact WkL.nil | refine Wk.agg _ _ ?_ | refine Wk.tup _ _ ?_))) (by rfl) (by rfl) ?_
    simp only [go_sem]
    refine hK _ _ fun nx => ?_; clear hK K; try clear kk
    obtain ⟨made_6, h5, hh⟩ := bind_ex hh
    obtain ⟨of_7, h6, hh⟩ := bind_ex hh
    refine awp_first fun K kk hK => ?_
    simp only [go_sem]
    refine step_call2 (diptychlaw3_made_ok _ _ h5) (by try simp only [go_sem]; (repeat (first | exact WkL.refl _ | exact Wk.refl _ | exact Wk.nil _ | refine WkL.cons _ _ _ _ ?_ ?_ | exact WkL.nil | refine Wk.agg _ _ ?_ | refine Wk.tup _ _ ?_))) (by rfl) (by rfl) ?_
    simp only [go_sem]
    refine step_call2 (token_Of_ok _ _ h6).list (by try simp only [go_sem]; (repeat (first | exact WkL.refl _ | exact Wk.refl _ | exact Wk.nil _ | refine WkL.cons _ _ _ _ ?_ ?_ | exact WkL.nil | refine Wk.agg _ _ ?_ | refine Wk.tup _ _ ?_))) (by rfl) (by rfl) ?_
    simp only [go_sem]
    refine hK _ _ fun nx => ?_; clear hK K; try clear kk
    obtain ⟨same_8, h7, hh⟩ := bind_ex hh
    refine awp_first fun K kk hK => ?_
    simp only [go_sem]
    refine step_call2 (token_Same_ok _ _ _ h7) (by try simp only [go_sem]; (repeat (first | exact WkL.refl _ | exact Wk.refl _ | exact Wk.nil _ | refine WkL.cons _ _ _ _ ?_ ?_ | exact WkL.nil | refine Wk.agg _ _ ?_ | refine Wk.tup _ _ ?_))) (by rfl) (by rfl) ?_
    simp only [go_sem]
    refine hK _ _ fun nx => ?_; clear hK K; try clear kk
    obtain ⟨back_9, h8, hh⟩ := bind_ex hh
    refine awp_first fun K kk hK => ?_
    simp only [go_sem]
    refine step_call2 (token_Back_ok _ _ _ h8) (by try simp only [go_sem]; (repeat (first | exact WkL.refl _ | exact Wk.refl _ | exact Wk.nil _ | refine WkL.cons _ _ _ _ ?_ ?_ | exact WkL.nil | refine Wk.agg _ _ ?_ | refine Wk.tup _ _ ?_))) (by rfl) (by rfl) ?_
    simp only [go_sem]
    refine hK _ _ fun nx => ?_; clear hK K; try clear kk
    refine awp_seq ?_
    by_cases h9 : (decide (same_8 < (0 : Int))) = true
    · rw [if_pos h9] at hh
      refine awp_first fun K kk hK => ?_
      simp only [go_sem, h9, of_decide_eq_true h9, h9, of_decide_eq_true h9]
      (repeat (refine And.intro ?_ ?_; focus (first | assumption | (try simp only [List.length_append, List.length_cons, List.length_nil] at *; omega))))
      refine hK _ _ fun nx => ?_; clear hK K; try clear kk
      refine awp_true rfl ?_
      refine awp_first fun K kk hK => ?_
      simp only [go_sem]
      refine hK _ _ fun nx => ?_; clear hK K; try clear kk
      refine awp_ret ?_; (repeat (with_reducible first | refine then_n ?_ | refine then_r ?_ | refine then_e ?_ | refine block_n ?_ | refine block_r ?_ | refine exit_here ?_ | refine exit_on rfl ?_ | refine scope_n ?_ | refine scope_r ?_ | refine scope_e ?_ | refine cut_awp ?_))
      obtain hR := Option.some.inj hh
      subst hR
      refine ret_pure2 ?_ (by rfl)
      simp only [go_sem, rvsRes, rvRes, cellRes, tupOf, pur2, List.map_cons, List.map_append, List.head?_cons]
      (repeat (first | exact Wk.refl _ | exact WkL.refl _ | exact Wk.nil _ | refine Wk.agg _ _ ?_ | refine Wk.tup _ _ ?_ | refine WkL.cons _ _ _ _ ?_ ?_ | exact WkL.nil))
    · rw [if_neg h9] at hh
      replace h9 := Bool.eq_false_iff.mpr h9
      by_cases h10 : (decide (back_9 < (0 : Int))) = true
      · rw [if_pos h10] at hh
        refine awp_first fun K kk hK => ?_
        simp only [go_sem, h9, of_decide_eq_false h9, h9, of_decide_eq_false h9, h10, of_decide_eq_true h10, h10, of_decide_eq_true h10]
        (repeat (refine And.intro ?_ ?_; focus (first | assumption | (try simp only [List.length_append, List.length_cons, List.length_nil] at *; omega))))
        refine hK _ _ fun nx => ?_; clear hK K; try clear kk
        refine awp_true rfl ?_
        refine awp_first fun K kk hK => ?_
        simp only [go_sem]
        refine hK _ _ fun nx => ?_; clear hK K; try clear kk
        refine awp_ret ?_; (repeat (with_reducible first | refine then_n ?_ | refine then_r ?_ | refine then_e ?_ | refine block_n ?_ | refine block_r ?_ | refine exit_here ?_ | refine exit_on rfl ?_ | refine scope_n ?_ | refine scope_r ?_ | refine scope_e ?_ | refine cut_awp ?_))
        obtain hR := Option.some.inj hh
        subst hR
        refine ret_pure2 ?_ (by rfl)
        simp only [go_sem, rvsRes, rvRes, cellRes, tupOf, pur2, List.map_cons, List.map_append, List.head?_cons]
        (repeat (first | exact Wk.refl _ | exact WkL.refl _ | exact Wk.nil _ | refine Wk.agg _ _ ?_ | refine Wk.tup _ _ ?_ | refine WkL.cons _ _ _ _ ?_ ?_ | exact WkL.nil))
      · rw [if_neg h10] at hh
        replace h10 := Bool.eq_false_iff.mpr h10
        refine awp_first fun K kk hK => ?_
        simp only [go_sem, h9, of_decide_eq_false h9, h9, of_decide_eq_false h9, h10, of_decide_eq_false h10, h10, of_decide_eq_false h10]
        (repeat (refine And.intro ?_ ?_; focus (first | assumption | (try simp only [List.length_append, List.length_cons, List.length_nil] at *; omega))))
        refine hK _ _ fun nx => ?_; clear hK K; try clear kk
        by_cases h11 : (decide ((w64 (same_8 + back_9)) > (if (of_7.length : Int) < (of_5.length : Int) then (of_7.length : Int) else (of_5.length : Int)))) = true
        · rw [if_pos h11] at hh
          refine awp_true (by first | exact congrArg PV.bool h11 | rfl) ?_
          refine awp_first fun K kk hK => ?_
          simp only [go_sem]
          refine hK _ _ fun nx => ?_; clear hK K; try clear kk
          refine awp_ret ?_; (repeat (with_reducible first | refine then_n ?_ | refine then_r ?_ | refine then_e ?_ | refine block_n ?_ | refine block_r ?_ | refine exit_here ?_ | refine exit_on rfl ?_ | refine scope_n ?_ | refine scope_r ?_ | refine scope_e ?_ | refine cut_awp ?_))
          obtain hR := Option.some.inj hh
          subst hR
          refine ret_pure2 ?_ (by rfl)
          simp only [go_sem, rvsRes, rvRes, cellRes, tupOf, pur2, List.map_cons, List.map_append, List.head?_cons]
          (repeat (first | exact Wk.refl _ | exact WkL.refl _ | exact Wk.nil _ | refine Wk.agg _ _ ?_ | refine Wk.tup _ _ ?_ | refine WkL.cons _ _ _ _ ?_ ?_ | exact WkL.nil))
        · rw [if_neg h11] at hh
          replace h11 := Bool.eq_false_iff.mpr h11
          refine awp_false (by first | exact congrArg PV.bool h11 | rfl) ?_
          refine awp_skip ?_; (repeat (with_reducible first | refine then_n ?_ | refine then_r ?_ | refine then_e ?_ | refine block_n ?_ | refine block_r ?_ | refine exit_here ?_ | refine exit_on rfl ?_ | refine scope_n ?_ | refine scope_r ?_ | refine scope_e ?_ | refine cut_awp ?_))
          refine awp_seq ?_
          refine awp_first fun K kk hK => ?_
          simp only [go_sem]
          refine hK _ _ fun nx => ?_; clear hK K; try clear kk
          obtain ⟨e0, f0, hh⟩ := bind_ex hh
          refine awp_fragE (CutTo (fun s => .inr () = e0 ∧ ∃ (i_16 : Int) (v_17 : Bool) (nx : Nat), s = ⟨[(6, .list 3 (of_5.map token_Token.pv)), (7, .list 3 (of_7.map token_Token.pv)), (8, .int .i64 same_8), (9, .int .i64 back_9), (10, .int .i64 i_16), (46, .bool v_17)], [], nx⟩))
            (fun i s => False)
            (fun s => ∃ res_15, .inl res_15 = e0 ∧ bodyR Tryd.prog [.tmp 4] (.bool res_15) [] .ret s) ?_ ?_ ?_ ?_
          · refine awp_block ?_
            refine awp_loopJ fun I hI => ?_
            obtain ⟨k, f0⟩ := lim_some f0
            have key : ∀ (k : Nat) (i_12 : Int), diptychlaw3_TokenEnds_l0 of_5 of_7 same_8 k i_12 = some e0 → ∀ (nx : Nat), I ⟨[(6, .list 3 (of_5.map token_Token.pv)), (7, .list 3 (of_7.map token_Token.pv)), (8, .int .i64 same_8), (9, .int .i64 back_9), (10, .int .i64 i_12)], [], nx⟩ := by
              intro k
              induction k with
              | zero => intro i_12 hh; rw [diptychlaw3_TokenEnds_l0] at hh; cases hh
              | succ k ih =>
                intro i_12 hh nx
                rw [diptychlaw3_TokenEnds_l0] at hh
                refine hI _ ?_
                refine awp_seq ?_
                refine awp_first fun K kk hK => ?_
                simp only [go_sem]
                refine hK _ _ fun nx => ?_; clear hK K; try clear kk
                by_cases h16 : (decide (i_12 < same_8)) = true
                · rw [if_pos h16] at hh
                  refine awp_true (by first | exact congrArg PV.bool h16 | rfl) ?_
                  refine awp_skip ?_; (repeat (with_reducible first | refine then_n ?_ | refine then_r ?_ | refine then_e ?_ | refine block_n ?_ | refine block_r ?_ | refine exit_here ?_ | refine exit_on rfl ?_ | refine scope_n ?_ | refine scope_r ?_ | refine scope_e ?_ | refine cut_awp ?_))
                  refine awp_seq ?_
                  refine awp_block ?_
                  obtain ⟨x_13, h17, hh⟩ := bind_ex hh
                  obtain ⟨h17a, h17b, h17c⟩ := rd_some h17
                  have h17d := rd_get (f := token_Token.pv) h17c
                  have h17f := rd_more (f := token_Token.pv) h17c
                  try simp only [Int.toNat_natCast, Int.reduceToNat] at h17d h17f
                  obtain ⟨x_14, h18, hh⟩ := bind_ex hh
                  obtain ⟨h18a, h18b, h18c⟩ := rd_some h18
                  have h18d := rd_get (f := token_Token.pv) h18c
                  have h18f := rd_more (f := token_Token.pv) h18c
                  try simp only [Int.toNat_natCast, Int.reduceToNat] at h18d h18f
                  refine awp_first fun K kk hK => ?_
                  simp only [go_sem, h17a, h17b, h17d, h17f.1, h17f.2, h18a, h18b, h18d, h18f.1, h18f.2]
                  (repeat (refine And.intro ?_ ?_; focus (first | assumption | (try simp only [List.length_append, List.length_cons, List.length_nil] at *; omega))))
                  refine hK _ _ fun nx => ?_; clear hK K; try clear kk
                  by_cases h19 : ((((x_13.Kind == x_14.Kind) && ((x_13.Text == x_14.Text) && (x_13.Head == x_14.Head))) != true)) = true
                  · rw [if_pos h19] at hh
                    refine awp_true (by first | exact congrArg PV.bool h19 | rfl) ?_
                    refine awp_first fun K kk hK => ?_
                    simp only [go_sem]
                    refine hK _ _ fun nx => ?_; clear hK K; try clear kk
                    refine awp_ret ?_; (repeat (with_reducible first | refine then_n ?_ | refine then_r ?_ | refine then_e ?_ | refine block_n ?_ | refine block_r ?_ | refine exit_here ?_ | refine exit_on rfl ?_ | refine scope_n ?_ | refine scope_r ?_ | refine scope_e ?_ | refine cut_awp ?_))
                    refine fragR ⟨_, (Option.some.inj hh), ?_⟩
                    refine ret_pure2 ?_ (by rfl)
                    simp only [go_sem, rvsRes, rvRes, cellRes, tupOf, pur2, List.map_cons, List.map_append, List.head?_cons]
                    (repeat (first | exact Wk.refl _ | exact WkL.refl _ | exact Wk.nil _ | refine Wk.agg _ _ ?_ | refine Wk.tup _ _ ?_ | refine WkL.cons _ _ _ _ ?_ ?_ | exact WkL.nil))
                  · rw [if_neg h19] at hh
                    replace h19 := Bool.eq_false_iff.mpr h19
                    refine awp_false (by first | exact congrArg PV.bool h19 | rfl) ?_
                    refine awp_skip ?_; (repeat (with_reducible first | refine then_n ?_ | refine then_r ?_ | refine then_e ?_ | refine block_n ?_ | refine block_r ?_ | refine exit_here ?_ | refine exit_on rfl ?_ | refine scope_n ?_ | refine scope_r ?_ | refine scope_e ?_ | refine cut_awp ?_))
                    refine awp_region fun K kk hK => ?_
                    simp only [go_sem]
                    refine hK _ _ fun nx => ?_; clear hK K; try clear kk
                    (repeat (with_reducible first | refine then_n ?_ | refine then_r ?_ | refine then_e ?_ | refine block_n ?_ | refine block_r ?_ | refine exit_here ?_ | refine exit_on rfl ?_ | refine scope_n ?_ | refine scope_r ?_ | refine scope_e ?_ | refine cut_awp ?_))
                    have ih' := ih _ hh nx
                    refine cut_id ?_
                    first | exact ih' | (simp only [diptychlaw3_Cell.pv_eq, api_Attr.pv_eq, api_Node.pv_eq, token_Token.pv_eq, diptychref3_Token.pv_eq, pvL, List.map_cons, List.map_nil, List.map_append, rune1] at ih' ⊢; exact ih')
                · rw [if_neg h16] at hh
                  replace h16 := Bool.eq_false_iff.mpr h16
                  refine awp_false (by first | exact congrArg PV.bool h16 | rfl) ?_
                  refine awp_exit ?_; (repeat (with_reducible first | refine then_n ?_ | refine then_r ?_ | refine then_e ?_ | refine block_n ?_ | refine block_r ?_ | refine exit_here ?_ | refine exit_on rfl ?_ | refine scope_n ?_ | refine scope_r ?_ | refine scope_e ?_ | refine cut_awp ?_))
                  refine fragN ?_
                  refine cut_id ?_
                  refine ⟨(Option.some.inj hh), ?_⟩
                  first | exact ⟨_, _, _, rfl⟩ | (simp only [diptychlaw3_Cell.pv_eq, api_Attr.pv_eq, api_Node.pv_eq, token_Token.pv_eq, diptychref3_Token.pv_eq, pvL, List.map_cons, List.map_nil, List.map_append, rune1]; exact ⟨_, _, _, rfl⟩)
            exact key _ _ f0 _
          · rintro s ⟨t, hless, rfl, i_16, v_17, nx, rfl⟩
            try dsimp only at hh
            (repeat (with_reducible first | refine then_n ?_ | refine then_r ?_ | refine then_e ?_ | refine block_n ?_ | refine block_r ?_ | refine exit_here ?_ | refine exit_on rfl ?_ | refine scope_n ?_ | refine scope_r ?_ | refine scope_e ?_))
            first | (refine cut_less hless ?_; try refine cut_awp ?_) | refine frag_less hless ?_ | refine body_less hless ?_
            refine awp_seq ?_
            refine awp_first fun K kk hK => ?_
            simp only [go_sem]
            refine hK _ _ fun nx => ?_; clear hK K; try clear kk
            obtain ⟨e1, f1, hh⟩ := bind_ex hh
            refine awp_fragE (CutTo (fun s => .inr () = e1 ∧ ∃ (i_24 : Int) (v_25 : Bool) (nx : Nat), s = ⟨[(6, .list 3 (of_5.map token_Token.pv)), (7, .list 3 (of_7.map token_Token.pv)), (8, .int .i64 same_8), (9, .int .i64 back_9), (11, .int .i64 i_24), (60, .bool v_25)], [], nx⟩))
              (fun i s => False)
              (fun s => ∃ res_23, .inl res_23 = e1 ∧ bodyR Tryd.prog [.tmp 4] (.bool res_23) [] .ret s) ?_ ?_ ?_ ?_
            · refine awp_block ?_
              refine awp_loopJ fun I hI => ?_
              obtain ⟨k, f1⟩ := lim_some f1
              have key : ∀ (k : Nat) (i_20 : Int), diptychlaw3_TokenEnds_l1 of_5 of_7 back_9 k i_20 = some e1 → ∀ (nx : Nat), I ⟨[(6, .list 3 (of_5.map token_Token.pv)), (7, .list 3 (of_7.map token_Token.pv)), (8, .int .i64 same_8), (9, .int .i64 back_9), (11, .int .i64 i_20)], [], nx⟩ := by
                intro k
                induction k with
                | zero => intro i_20 hh; rw [diptychlaw3_TokenEnds_l1] at hh; cases hh
                | succ k ih =>
                  intro i_20 hh nx
                  rw [diptychlaw3_TokenEnds_l1] at hh
                  refine hI _ ?_
                  refine awp_seq ?_
                  refine awp_first fun K kk hK => ?_
                  simp only [go_sem]
                  refine hK _ _ fun nx => ?_; clear hK K; try clear kk
                  by_cases h24 : (decide (i_20 ≤ back_9)) = true
                  · rw [if_pos h24] at hh
                    refine awp_true (by first | exact congrArg PV.bool h24 | rfl) ?_
                    refine awp_skip ?_; (repeat (with_reducible first | refine then_n ?_ | refine then_r ?_ | refine then_e ?_ | refine block_n ?_ | refine block_r ?_ | refine exit_here ?_ | refine exit_on rfl ?_ | refine scope_n ?_ | refine scope_r ?_ | refine scope_e ?_ | refine cut_awp ?_))
                    refine awp_seq ?_
                    refine awp_block ?_
                    obtain ⟨x_21, h25, hh⟩ := bind_ex hh
                    obtain ⟨h25a, h25b, h25c⟩ := rd_some h25
                    have h25d := rd_get (f := token_Token.pv) h25c
                    have h25f := rd_more (f := token_Token.pv) h25c
                    try simp only [Int.toNat_natCast, Int.reduceToNat] at h25d h25f
                    obtain ⟨x_22, h26, hh⟩ := bind_ex hh
                    obtain ⟨h26a, h26b, h26c⟩ := rd_some h26
                    have h26d := rd_get (f := token_Token.pv) h26c
                    have h26f := rd_more (f := token_Token.pv) h26c
                    try simp only [Int.toNat_natCast, Int.reduceToNat] at h26d h26f
                    refine awp_first fun K kk hK => ?_
                    simp only [go_sem, h25a, h25b, h25d, h25f.1, h25f.2, h26a, h26b, h26d, h26f.1, h26f.2]
                    (repeat (refine And.intro ?_ ?_; focus (first | assumption | (try simp only [List.length_append, List.length_cons, List.length_nil] at *; omega))))
                    refine hK _ _ fun nx => ?_; clear hK K; try clear kk
                    by_cases h27 : ((((x_21.Kind == x_22.Kind) && ((x_21.Text == x_22.Text) && (x_21.Head == x_22.Head))) != true)) = true
                    · rw [if_pos h27] at hh
                      refine awp_true (by first | exact congrArg PV.bool h27 | rfl) ?_
                      refine awp_first fun K kk hK => ?_
                      simp only [go_sem]
                      refine hK _ _ fun nx => ?_; clear hK K; try clear kk
                      refine awp_ret ?_; (repeat (with_reducible first | refine then_n ?_ | refine then_r ?_ | refine then_e ?_ | refine block_n ?_ | refine block_r ?_ | refine exit_here ?_ | refine exit_on rfl ?_ | refine scope_n ?_ | refine scope_r ?_ | refine scope_e ?_ | refine cut_awp ?_))
                      refine fragR ⟨_, (Option.some.inj hh), ?_⟩
                      refine ret_pure2 ?_ (by rfl)
                      simp only [go_sem, rvsRes, rvRes, cellRes, tupOf, pur2, List.map_cons, List.map_append, List.head?_cons]
                      (repeat (first | exact Wk.refl _ | exact WkL.refl _ | exact Wk.nil _ | refine Wk.agg _ _ ?_ | refine Wk.tup _ _ ?_ | refine WkL.cons _ _ _ _ ?_ ?_ | exact WkL.nil))
                    · rw [if_neg h27] at hh
                      replace h27 := Bool.eq_false_iff.mpr h27
                      refine awp_false (by first | exact congrArg PV.bool h27 | rfl) ?_
                      refine awp_skip ?_; (repeat (with_reducible first | refine then_n ?_ | refine then_r ?_ | refine then_e ?_ | refine block_n ?_ | refine block_r ?_ | refine exit_here ?_ | refine exit_on rfl ?_ | refine scope_n ?_ | refine scope_r ?_ | refine scope_e ?_ | refine cut_awp ?_))
                      refine awp_region fun K kk hK => ?_
                      simp only [go_sem]
                      refine hK _ _ fun nx => ?_; clear hK K; try clear kk
                      (repeat (with_reducible first | refine then_n ?_ | refine then_r ?_ | refine then_e ?_ | refine block_n ?_ | refine block_r ?_ | refine exit_here ?_ | refine exit_on rfl ?_ | refine scope_n ?_ | refine scope_r ?_ | refine scope_e ?_ | refine cut_awp ?_))
                      have ih' := ih _ hh nx
                      refine cut_id ?_
                      first | exact ih' | (simp only [diptychlaw3_Cell.pv_eq, api_Attr.pv_eq, api_Node.pv_eq, token_Token.pv_eq, diptychref3_Token.pv_eq, pvL, List.map_cons, List.map_nil, List.map_append, rune1] at ih' ⊢; exact ih')
                  · rw [if_neg h24] at hh
                    replace h24 := Bool.eq_false_iff.mpr h24
                    refine awp_false (by first | exact congrArg PV.bool h24 | rfl) ?_
                    refine awp_exit ?_; (repeat (with_reducible first | refine then_n ?_ | refine then_r ?_ | refine then_e ?_ | refine block_n ?_ | refine block_r ?_ | refine exit_here ?_ | refine exit_on rfl ?_ | refine scope_n ?_ | refine scope_r ?_ | refine scope_e ?_ | refine cut_awp ?_))
                    refine fragN ?_
                    refine cut_id ?_
                    refine ⟨(Option.some.inj hh), ?_⟩
                    first | exact ⟨_, _, _, rfl⟩ | (simp only [diptychlaw3_Cell.pv_eq, api_Attr.pv_eq, api_Node.pv_eq, token_Token.pv_eq, diptychref3_Token.pv_eq, pvL, List.map_cons, List.map_nil, List.map_append, rune1]; exact ⟨_, _, _, rfl⟩)
              exact key _ _ f1 _
            · rintro s ⟨t, hless, rfl, i_24, v_25, nx, rfl⟩
              try dsimp only at hh
              (repeat (with_reducible first | refine then_n ?_ | refine then_r ?_ | refine then_e ?_ | refine block_n ?_ | refine block_r ?_ | refine exit_here ?_ | refine exit_on rfl ?_ | refine scope_n ?_ | refine scope_r ?_ | refine scope_e ?_))
              first | (refine cut_less hless ?_; try refine cut_awp ?_) | refine frag_less hless ?_ | refine body_less hless ?_
              refine awp_seq ?_
              by_cases h28 : (decide (same_8 < (of_5.length : Int))) = true
              · rw [if_pos h28] at hh
                by_cases h29 : (decide (same_8 < (of_7.length : Int))) = true
                · rw [if_pos h29] at hh
                  obtain ⟨x_26, h30, hh⟩ := bind_ex hh
                  obtain ⟨h30a, h30b, h30c⟩ := rd_some h30
                  have h30d := rd_get (f := token_Token.pv) h30c
                  have h30f := rd_more (f := token_Token.pv) h30c
                  try simp only [Int.toNat_natCast, Int.reduceToNat] at h30d h30f
                  obtain ⟨x_27, h31, hh⟩ := bind_ex hh
                  obtain ⟨h31a, h31b, h31c⟩ := rd_some h31
                  have h31d := rd_get (f := token_Token.pv) h31c
                  have h31f := rd_more (f := token_Token.pv) h31c
                  try simp only [Int.toNat_natCast, Int.reduceToNat] at h31d h31f
                  refine awp_first fun K kk hK => ?_
                  simp only [go_sem, h28, of_decide_eq_true h28, h28, of_decide_eq_true h28, h29, of_decide_eq_true h29, h30a, h30b, h30d, h30f.1, h30f.2, h31a, h31b, h31d, h31f.1, h31f.2, h29, of_decide_eq_true h29]
                  (repeat (refine And.intro ?_ ?_; focus (first | assumption | (try simp only [List.length_append, List.length_cons, List.length_nil] at *; omega))))
                  refine hK _ _ fun nx => ?_; clear hK K; try clear kk
                  by_cases h32 : ((((x_26.Kind == x_27.Kind) && ((x_26.Text == x_27.Text) && (x_26.Head == x_27.Head))) != false)) = true
                  · rw [if_pos h32] at hh
                    refine awp_true (by first | exact congrArg PV.bool h32 | rfl) ?_
                    refine awp_first fun K kk hK => ?_
                    simp only [go_sem]
                    refine hK _ _ fun nx => ?_; clear hK K; try clear kk
                    refine awp_ret ?_; (repeat (with_reducible first | refine then_n ?_ | refine then_r ?_ | refine then_e ?_ | refine block_n ?_ | refine block_r ?_ | refine exit_here ?_ | refine exit_on rfl ?_ | refine scope_n ?_ | refine scope_r ?_ | refine scope_e ?_ | refine cut_awp ?_))
                    obtain hR := Option.some.inj hh
                    subst hR
                    refine ret_pure2 ?_ (by rfl)
                    simp only [go_sem, rvsRes, rvRes, cellRes, tupOf, pur2, List.map_cons, List.map_append, List.head?_cons]
                    (repeat (first | exact Wk.refl _ | exact WkL.refl _ | exact Wk.nil _ | refine Wk.agg _ _ ?_ | refine Wk.tup _ _ ?_ | refine WkL.cons _ _ _ _ ?_ ?_ | exact WkL.nil))
                  · rw [if_neg h32] at hh
                    replace h32 := Bool.eq_false_iff.mpr h32
                    refine awp_false (by first | exact congrArg PV.bool h32 | rfl) ?_
                    refine awp_skip ?_; (repeat (with_reducible first | refine then_n ?_ | refine then_r ?_ | refine then_e ?_ | refine block_n ?_ | refine block_r ?_ | refine exit_here ?_ | refine exit_on rfl ?_ | refine scope_n ?_ | refine scope_r ?_ | refine scope_e ?_ | refine cut_awp ?_))
                    by_cases h33 : ((w64 (same_8 + back_9)) == (if (of_7.length : Int) < (of_5.length : Int) then (of_7.length : Int) else (of_5.length : Int))) = true
                    · rw [if_pos h33] at hh
                      refine awp_first fun K kk hK => ?_
                      simp only [go_sem, h33, h33]
                      (repeat (refine And.intro ?_ ?_; focus (first | assumption | (try simp only [List.length_append, List.length_cons, List.length_nil] at *; omega))))
                      refine hK _ _ fun nx => ?_; clear hK K; try clear kk
                      refine awp_ret ?_; (repeat (with_reducible first | refine then_n ?_ | refine then_r ?_ | refine then_e ?_ | refine block_n ?_ | refine block_r ?_ | refine exit_here ?_ | refine exit_on rfl ?_ | refine scope_n ?_ | refine scope_r ?_ | refine scope_e ?_ | refine cut_awp ?_))
                      obtain hR := Option.some.inj hh
                      subst hR
                      refine ret_pure2 ?_ (by rfl)
                      simp only [go_sem, rvsRes, rvRes, cellRes, tupOf, pur2, List.map_cons, List.map_append, List.head?_cons]
                      (repeat (first | exact Wk.refl _ | exact WkL.refl _ | exact Wk.nil _ | refine Wk.agg _ _ ?_ | refine Wk.tup _ _ ?_ | refine WkL.cons _ _ _ _ ?_ ?_ | exact WkL.nil))
                    · rw [if_neg h33] at hh
                      replace h33 := Bool.eq_false_iff.mpr h33
                      obtain ⟨x_28, h34, hh⟩ := bind_ex hh
                      obtain ⟨h34a, h34b, h34c⟩ := rd_some h34
                      have h34d := rd_get (f := token_Token.pv) h34c
                      have h34f := rd_more (f := token_Token.pv) h34c
                      try simp only [Int.toNat_natCast, Int.reduceToNat] at h34d h34f
                      obtain ⟨x_29, h35, hh⟩ := bind_ex hh
                      obtain ⟨h35a, h35b, h35c⟩ := rd_some h35
                      have h35d := rd_get (f := token_Token.pv) h35c
                      have h35f := rd_more (f := token_Token.pv) h35c
                      try simp only [Int.toNat_natCast, Int.reduceToNat] at h35d h35f
                      refine awp_first fun K kk hK => ?_
                      simp only [go_sem, h33, h34a, h34b, h34d, h34f.1, h34f.2, h35a, h35b, h35d, h35f.1, h35f.2, h33]
                      (repeat (refine And.intro ?_ ?_; focus (first | assumption | (try simp only [List.length_append, List.length_cons, List.length_nil] at *; omega))))
                      refine hK _ _ fun nx => ?_; clear hK K; try clear kk
                      refine awp_ret ?_; (repeat (with_reducible first | refine then_n ?_ | refine then_r ?_ | refine then_e ?_ | refine block_n ?_ | refine block_r ?_ | refine exit_here ?_ | refine exit_on rfl ?_ | refine scope_n ?_ | refine scope_r ?_ | refine scope_e ?_ | refine cut_awp ?_))
                      obtain hR := Option.some.inj hh
                      subst hR
                      refine ret_pure2 ?_ (by rfl)
                      simp only [go_sem, rvsRes, rvRes, cellRes, tupOf, pur2, List.map_cons, List.map_append, List.head?_cons]
                      (repeat (first | exact Wk.refl _ | exact WkL.refl _ | exact Wk.nil _ | refine Wk.agg _ _ ?_ | refine Wk.tup _ _ ?_ | refine WkL.cons _ _ _ _ ?_ ?_ | exact WkL.nil))
                · rw [if_neg h29] at hh
                  replace h29 := Bool.eq_false_iff.mpr h29
                  refine awp_first fun K kk hK => ?_
                  simp only [go_sem, h28, of_decide_eq_true h28, h28, of_decide_eq_true h28, h29, of_decide_eq_false h29, h29, of_decide_eq_false h29]
                  (repeat (refine And.intro ?_ ?_; focus (first | assumption | (try simp only [List.length_append, List.length_cons, List.length_nil] at *; omega))))
                  refine hK _ _ fun nx => ?_; clear hK K; try clear kk
                  refine awp_false rfl ?_
                  refine awp_skip ?_; (repeat (with_reducible first | refine then_n ?_ | refine then_r ?_ | refine then_e ?_ | refine block_n ?_ | refine block_r ?_ | refine exit_here ?_ | refine exit_on rfl ?_ | refine scope_n ?_ | refine scope_r ?_ | refine scope_e ?_ | refine cut_awp ?_))
                  by_cases h36 : ((w64 (same_8 + back_9)) == (if (of_7.length : Int) < (of_5.length : Int) then (of_7.length : Int) else (of_5.length : Int))) = true
                  · rw [if_pos h36] at hh
                    refine awp_first fun K kk hK => ?_
                    simp only [go_sem, h36, h36]
                    (repeat (refine And.intro ?_ ?_; focus (first | assumption | (try simp only [List.length_append, List.length_cons, List.length_nil] at *; omega))))
                    refine hK _ _ fun nx => ?_; clear hK K; try clear kk
                    refine awp_ret ?_; (repeat (with_reducible first | refine then_n ?_ | refine then_r ?_ | refine then_e ?_ | refine block_n ?_ | refine block_r ?_ | refine exit_here ?_ | refine exit_on rfl ?_ | refine scope_n ?_ | refine scope_r ?_ | refine scope_e ?_ | refine cut_awp ?_))
                    obtain hR := Option.some.inj hh
                    subst hR
                    refine ret_pure2 ?_ (by rfl)
                    simp only [go_sem, rvsRes, rvRes, cellRes, tupOf, pur2, List.map_cons, List.map_append, List.head?_cons]
                    (repeat (first | exact Wk.refl _ | exact WkL.refl _ | exact Wk.nil _ | refine Wk.agg _ _ ?_ | refine Wk.tup _ _ ?_ | refine WkL.cons _ _ _ _ ?_ ?_ | exact WkL.nil))
                  · rw [if_neg h36] at hh
                    replace h36 := Bool.eq_false_iff.mpr h36
                    obtain ⟨x_30, h37, hh⟩ := bind_ex hh
                    obtain ⟨h37a, h37b, h37c⟩ := rd_some h37
                    have h37d := rd_get (f := token_Token.pv) h37c
                    have h37f := rd_more (f := token_Token.pv) h37c
                    try simp only [Int.toNat_natCast, Int.reduceToNat] at h37d h37f
                    obtain ⟨x_31, h38, hh⟩ := bind_ex hh
                    obtain ⟨h38a, h38b, h38c⟩ := rd_some h38
                    have h38d := rd_get (f := token_Token.pv) h38c
                    have h38f := rd_more (f := token_Token.pv) h38c
                    try simp only [Int.toNat_natCast, Int.reduceToNat] at h38d h38f
                    refine awp_first fun K kk hK => ?_
                    simp only [go_sem, h36, h37a, h37b, h37d, h37f.1, h37f.2, h38a, h38b, h38d, h38f.1, h38f.2, h36]
                    (repeat (refine And.intro ?_ ?_; focus (first | assumption | (try simp only [List.length_append, List.length_cons, List.length_nil] at *; omega))))
                    refine hK _ _ fun nx => ?_; clear hK K; try clear kk
                    refine awp_ret ?_; (repeat (with_reducible first | refine then_n ?_ | refine then_r ?_ | refine then_e ?_ | refine block_n ?_ | refine block_r ?_ | refine exit_here ?_ | refine exit_on rfl ?_ | refine scope_n ?_ | refine scope_r ?_ | refine scope_e ?_ | refine cut_awp ?_))
                    obtain hR := Option.some.inj hh
                    subst hR
                    refine ret_pure2 ?_ (by rfl)
                    simp only [go_sem, rvsRes, rvRes, cellRes, tupOf, pur2, List.map_cons, List.map_append, List.head?_cons]
                    (repeat (first | exact Wk.refl _ | exact WkL.refl _ | exact Wk.nil _ | refine Wk.agg _ _ ?_ | refine Wk.tup _ _ ?_ | refine WkL.cons _ _ _ _ ?_ ?_ | exact WkL.nil))
              · rw [if_neg h28] at hh
                replace h28 := Bool.eq_false_iff.mpr h28
                refine awp_first fun K kk hK => ?_
                simp only [go_sem, h28, of_decide_eq_false h28, h28, of_decide_eq_false h28]
                (repeat (refine And.intro ?_ ?_; focus (first | assumption | (try simp only [List.length_append, List.length_cons, List.length_nil] at *; omega))))
                refine hK _ _ fun nx => ?_; clear hK K; try clear kk
                refine awp_false rfl ?_
                refine awp_skip ?_; (repeat (with_reducible first | refine then_n ?_ | refine then_r ?_ | refine then_e ?_ | refine block_n ?_ | refine block_r ?_ | refine exit_here ?_ | refine exit_on rfl ?_ | refine scope_n ?_ | refine scope_r ?_ | refine scope_e ?_ | refine cut_awp ?_))
                by_cases h39 : ((w64 (same_8 + back_9)) == (if (of_7.length : Int) < (of_5.length : Int) then (of_7.length : Int) else (of_5.length : Int))) = true
                · rw [if_pos h39] at hh
                  refine awp_first fun K kk hK => ?_
                  simp only [go_sem, h39, h39]
                  (repeat (refine And.intro ?_ ?_; focus (first | assumption | (try simp only [List.length_append, List.length_cons, List.length_nil] at *; omega))))
                  refine hK _ _ fun nx => ?_; clear hK K; try clear kk
                  refine awp_ret ?_; (repeat (with_reducible first | refine then_n ?_ | refine then_r ?_ | refine then_e ?_ | refine block_n ?_ | refine block_r ?_ | refine exit_here ?_ | refine exit_on rfl ?_ | refine scope_n ?_ | refine scope_r ?_ | refine scope_e ?_ | refine cut_awp ?_))
                  obtain hR := Option.some.inj hh
                  subst hR
                  refine ret_pure2 ?_ (by rfl)
                  simp only [go_sem, rvsRes, rvRes, cellRes, tupOf, pur2, List.map_cons, List.map_append, List.head?_cons]
                  (repeat (first | exact Wk.refl _ | exact WkL.refl _ | exact Wk.nil _ | refine Wk.agg _ _ ?_ | refine Wk.tup _ _ ?_ | refine WkL.cons _ _ _ _ ?_ ?_ | exact WkL.nil))
                · rw [if_neg h39] at hh
                  replace h39 := Bool.eq_false_iff.mpr h39
                  obtain ⟨x_32, h40, hh⟩ := bind_ex hh
                  obtain ⟨h40a, h40b, h40c⟩ := rd_some h40
                  have h40d := rd_get (f := token_Token.pv) h40c
                  have h40f := rd_more (f := token_Token.pv) h40c
                  try simp only [Int.toNat_natCast, Int.reduceToNat] at h40d h40f
                  obtain ⟨x_33, h41, hh⟩ := bind_ex hh
                  obtain ⟨h41a, h41b, h41c⟩ := rd_some h41
                  have h41d := rd_get (f := token_Token.pv) h41c
                  have h41f := rd_more (f := token_Token.pv) h41c
                  try simp only [Int.toNat_natCast, Int.reduceToNat] at h41d h41f
                  refine awp_first fun K kk hK => ?_
                  simp only [go_sem, h39, h40a, h40b, h40d, h40f.1, h40f.2, h41a, h41b, h41d, h41f.1, h41f.2, h39]
                  (repeat (refine And.intro ?_ ?_; focus (first | assumption | (try simp only [List.length_append, List.length_cons, List.length_nil] at *; omega))))
                  refine hK _ _ fun nx => ?_; clear hK K; try clear kk
                  refine awp_ret ?_; (repeat (with_reducible first | refine then_n ?_ | refine then_r ?_ | refine then_e ?_ | refine block_n ?_ | refine block_r ?_ | refine exit_here ?_ | refine exit_on rfl ?_ | refine scope_n ?_ | refine scope_r ?_ | refine scope_e ?_ | refine cut_awp ?_))
                  obtain hR := Option.some.inj hh
                  subst hR
                  refine ret_pure2 ?_ (by rfl)
                  simp only [go_sem, rvsRes, rvRes, cellRes, tupOf, pur2, List.map_cons, List.map_append, List.head?_cons]
                  (repeat (first | exact Wk.refl _ | exact WkL.refl _ | exact Wk.nil _ | refine Wk.agg _ _ ?_ | refine Wk.tup _ _ ?_ | refine WkL.cons _ _ _ _ ?_ ?_ | exact WkL.nil))
            · intro i s h; exact h.elim
            · rintro s ⟨res_23, rfl, hb⟩
              try dsimp only at hh
              obtain hR := Option.some.inj hh
              subst hR
              (repeat (with_reducible first | refine then_n ?_ | refine then_r ?_ | refine then_e ?_ | refine block_n ?_ | refine block_r ?_ | refine exit_here ?_ | refine exit_on rfl ?_ | refine scope_n ?_ | refine scope_r ?_ | refine scope_e ?_ | refine cut_awp ?_))
              exact hb
          · intro i s h; exact h.elim
          · rintro s ⟨res_15, rfl, hb⟩
            try dsimp only at hh
            obtain hR := Option.some.inj hh
            subst hR
            (repeat (with_reducible first | refine then_n ?_ | refine then_r ?_ | refine then_e ?_ | refine block_n ?_ | refine block_r ?_ | refine exit_here ?_ | refine exit_on rfl ?_ | refine scope_n ?_ | refine scope_r ?_ | refine scope_e ?_ | refine cut_awp ?_))
            exact hb
theorem diptychlaw3_as_ok (l_1 : (List token_Token)) (R : (List diptychref3_Token)) (hh : diptychlaw3_as l_1 = some R) : PC Tryd.prog 24 [.list 3 (l_1.map token_Token.pv)] (.own 3 (R.map diptychref3_Token.pv)) := by
  rw [diptychlaw3_as] at hh
  refine start_diptychlaw3_as rfl ?_
  refine awp_first fun K kk hK => ?_
  simp only [go_sem]
  refine hK _ _ fun nx => ?_; clear hK K; try clear kk
  refine awp_first fun K kk hK => ?_
  simp only [go_sem]
  refine hK _ _ fun nx => ?_; clear hK K; try clear kk
  refine awp_seq ?_
  refine awp_first fun K kk hK => ?_
  simp only [go_sem]
  refine hK _ _ fun nx => ?_; clear hK K; try clear kk
  obtain ⟨e0, f0, hh⟩ := bind_ex hh
  obtain ⟨hlen0, f0⟩ := chk_some f0
  refine awp_fragE (CutTo (fun s => ∃ out_12, out_12 = e0 ∧ ∃ (i_10 : Int) (v_11 : Bool) (nx : Nat) (g3 : Nat), s = ⟨[(0, .list 3 (l_1.map token_Token.pv)), (3, .row 3 g3 out_12.length), (4, .int .i64 i_10), (8, .bool v_11)], [(3, g3, .row false 3 (out_12.map diptychref3_Token.pv))], nx⟩))
    (fun i s => False)
    (fun s => False) ?_ ?_ ?_ ?_
  · refine awp_block ?_
    refine awp_loopJ fun I hI => ?_
    have key : ∀ (suf pre : List token_Token) (i_4 : Int) (out_5 : (List diptychref3_Token)), l_1 = pre ++ suf → i_4 = (pre.length : Int) → diptychlaw3_as_l0 suf i_4 out_5 = some e0 → ∀ (nx : Nat) (g3 : Nat), I ⟨[(0, .list 3 (l_1.map token_Token.pv)), (3, .row 3 g3 out_5.length), (4, .int .i64 i_4)], [(3, g3, .row false 3 (out_5.map diptychref3_Token.pv))], nx⟩ := by
      intro suf
      induction suf with
      | nil =>
        intro pre i_4 out_5 hsplit hidx hh nx g3
        rw [diptychlaw3_as_l0] at hh
        refine hI _ ?_
        have h7 := walk_nil hsplit hidx
        refine awp_seq ?_
        refine awp_first fun K kk hK => ?_
        simp only [go_sem]
        refine hK _ _ fun nx => ?_; clear hK K; try clear kk
        refine awp_false (by first | exact congrArg PV.bool h7 | rfl) ?_
        refine awp_exit ?_; (repeat (with_reducible first | refine then_n ?_ | refine then_r ?_ | refine then_e ?_ | refine block_n ?_ | refine block_r ?_ | refine exit_here ?_ | refine exit_on rfl ?_ | refine scope_n ?_ | refine scope_r ?_ | refine scope_e ?_ | refine cut_awp ?_))
        refine fragN ?_
        refine cut_id ?_
        refine ⟨_, (Option.some.inj hh), ?_⟩
        first | exact ⟨_, _, _, _, rfl⟩ | (simp only [diptychlaw3_Cell.pv_eq, api_Attr.pv_eq, api_Node.pv_eq, token_Token.pv_eq, diptychref3_Token.pv_eq, pvL, List.map_cons, List.map_nil, List.map_append, rune1]; exact ⟨_, _, _, _, rfl⟩)
      | cons y_8 suf ih =>
        intro pre i_4 out_5 hsplit hidx hh nx g3
        rw [diptychlaw3_as_l0] at hh
        refine hI _ ?_
        obtain ⟨hl0a, hl0b, hl0d, hl0w, h7⟩ := walk_cons (f := token_Token.pv) hsplit hidx hlen0
        refine awp_seq ?_
        refine awp_first fun K kk hK => ?_
        simp only [go_sem]
        refine hK _ _ fun nx => ?_; clear hK K; try clear kk
        refine awp_true (by first | exact congrArg PV.bool h7 | rfl) ?_
        refine awp_skip ?_; (repeat (with_reducible first | refine then_n ?_ | refine then_r ?_ | refine then_e ?_ | refine block_n ?_ | refine block_r ?_ | refine exit_here ?_ | refine exit_on rfl ?_ | refine scope_n ?_ | refine scope_r ?_ | refine scope_e ?_ | refine cut_awp ?_))
        refine awp_seq ?_
        refine awp_block ?_
        obtain ⟨l_9, h8, hh⟩ := bind_ex hh
        obtain ⟨h8a, h8c⟩ := app_some h8
        have h8d := app_map (f := diptychref3_Token.pv) h8c
        have h8e := app_len h8c
        try simp only [List.length_cons, List.length_nil, Nat.zero_add, Nat.reduceAdd] at h8a h8e
        try simp only [h8e] at h8a
        try simp only [List.map_cons, List.map_nil, List.nil_append, List.append_nil, List.cons_append, List.singleton_append, rune1, diptychlaw3_Cell.pv_eq, api_Attr.pv_eq, api_Node.pv_eq, token_Token.pv_eq, diptychref3_Token.pv_eq, pvL] at h8d
        refine awp_region fun K kk hK => ?_
        simp only [go_sem, h8a, h8d, h8e, hl0a, hl0b, hl0d, hl0w]
        (repeat (refine And.intro ?_ ?_; focus (first | assumption | (try simp only [List.length_append, List.length_cons, List.length_nil] at *; omega))))
        refine hK _ _ fun nx => ?_; clear hK K; try clear kk
        (repeat (with_reducible first | refine then_n ?_ | refine then_r ?_ | refine then_e ?_ | refine block_n ?_ | refine block_r ?_ | refine exit_here ?_ | refine exit_on rfl ?_ | refine scope_n ?_ | refine scope_r ?_ | refine scope_e ?_ | refine cut_awp ?_))
        refine awp_region fun K kk hK => ?_
        simp only [go_sem, hl0a, hl0b, hl0d, hl0w]
        refine hK _ _ fun nx => ?_; clear hK K; try clear kk
        (repeat (with_reducible first | refine then_n ?_ | refine then_r ?_ | refine then_e ?_ | refine block_n ?_ | refine block_r ?_ | refine exit_here ?_ | refine exit_on rfl ?_ | refine scope_n ?_ | refine scope_r ?_ | refine scope_e ?_ | refine cut_awp ?_))
        have ih' := ih (pre ++ [y_8]) (i_4 + 1) _ (by rw [hsplit]; simp) (by simp [hidx]) hh nx
        refine cut_id ?_
        first | exact ih' _ | (simp only [diptychlaw3_Cell.pv_eq, api_Attr.pv_eq, api_Node.pv_eq, token_Token.pv_eq, diptychref3_Token.pv_eq, pvL, List.map_cons, List.map_nil, List.map_append, rune1, h8e] at ih' ⊢; exact ih' _)
    exact key l_1 [] _ _ rfl rfl f0 _ _
  · rintro s ⟨t, hless, out_12, rfl, i_10, v_11, nx, g3, rfl⟩
    try dsimp only at hh
    (repeat (with_reducible first | refine then_n ?_ | refine then_r ?_ | refine then_e ?_ | refine block_n ?_ | refine block_r ?_ | refine exit_here ?_ | refine exit_on rfl ?_ | refine scope_n ?_ | refine scope_r ?_ | refine scope_e ?_))
    first | (refine cut_less hless ?_; try refine cut_awp ?_) | refine frag_less hless ?_ | refine body_less hless ?_
    refine awp_first fun K kk hK => ?_
    simp only [go_sem]
    refine hK _ _ fun nx => ?_; clear hK K; try clear kk
    refine awp_ret ?_; (repeat (with_reducible first | refine then_n ?_ | refine then_r ?_ | refine then_e ?_ | refine block_n ?_ | refine block_r ?_ | refine exit_here ?_ | refine exit_on rfl ?_ | refine scope_n ?_ | refine scope_r ?_ | refine scope_e ?_ | refine cut_awp ?_))
    obtain hR := Option.some.inj hh
    subst hR
    exact ret_own (by rfl) (by rfl) (by rfl) (by simp only [List.length_map, List.length_cons, List.length_nil, Nat.zero_add, Nat.reduceAdd]) (by first | rfl | (simp only [diptychlaw3_Cell.pv_eq, api_Attr.pv_eq, api_Node.pv_eq, token_Token.pv_eq, diptychref3_Token.pv_eq, pvL, List.map_cons, List.map_nil, List.map_append, rune1]; done) | (simp only [diptychlaw3_Cell.pv_eq, api_Attr.pv_eq, api_Node.pv_eq, token_Token.pv_eq, diptychref3_Token.pv_eq, pvL, List.map_cons, List.map_nil, List.map_append, rune1]; rfl))
  · intro i s h; exact h.elim
  · intro s h; exact h.elim
theorem diptychlaw3_TokenLens_ok (a_1 : (List diptychlaw3_Cell)) (b_2 : (List diptychlaw3_Cell)) (R : Bool) (hh : diptychlaw3_TokenLens a_1 b_2 = some R) : PC Tryd.prog 5 [.list 3 (a_1.map diptychlaw3_Cell.pv), .list 3 (b_2.map diptychlaw3_Cell.pv)] (.bool R) := by
  rw [diptychlaw3_TokenLens] at hh
  refine start_diptychlaw3_TokenLens rfl ?_
  refine awp_first fun K kk hK => ?_
  simp only [go_sem]
  refine hK _ _ fun nx => ?_; clear hK K; try clear kk
  obtain ⟨shown_3, h1, hh⟩ := bind_ex hh
  refine awp_first fun K kk hK => ?_
  simp only [go_sem]
  refine step_call2 (diptychlaw3_shown_ok _ h1) (by try simp only [go_sem]; (repeat (first | exact WkL.refl _ | exact Wk.refl _ | exact Wk.nil _ | refine WkL.cons _ _ _ _ ?_ ?_ | exact WkL.nil | refine Wk.agg _ _ ?_ | refine Wk.tup _ _ ?_))) (by rfl) (by rfl) ?_
  simp only [go_sem]
  refine hK _ _ fun nx => ?_; clear hK K; try clear kk
  refine awp_seq ?_
  refine awp_first fun K kk hK => ?_
  simp only [go_sem]
  refine hK _ _ fun nx => ?_; clear hK K; try clear kk
  by_cases h2 : (!shown_3) = true
  · rw [if_pos h2] at hh
    refine awp_true (by first | exact congrArg PV.bool h2 | rfl) ?_
    refine awp_first fun K kk hK => ?_
    simp only [go_sem]
    refine hK _ _ fun nx => ?_; clear hK K; try clear kk
    refine awp_ret ?_; (repeat (with_reducible first | refine then_n ?_ | refine then_r ?_ | refine then_e ?_ | refine block_n ?_ | refine block_r ?_ | refine exit_here ?_ | refine exit_on rfl ?_ | refine scope_n ?_ | refine scope_r ?_ | refine scope_e ?_ | refine cut_awp ?_))
    obtain hR := Option.some.inj hh
    subst hR
    refine ret_pure2 ?_ (by rfl)
    simp only [go_sem, rvsRes, rvRes, cellRes, tupOf, pur2, List.map_cons, List.map_append, List.head?_cons]
    (repeat (first | exact Wk.refl _ | exact WkL.refl _ | exact Wk.nil _ | refine Wk.agg _ _ ?_ | refine Wk.tup _ _ ?_ | refine WkL.cons _ _ _ _ ?_ ?_ | exact WkL.nil))
  · rw [if_neg h2] at hh
    replace h2 := Bool.eq_false_iff.mpr h2
    refine awp_false (by first | exact congrArg PV.bool h2 | rfl) ?_
    refine awp_skip ?_; (repeat (with_reducible first | refine then_n ?_ | refine then_r ?_ | refine then_e ?_ | refine block_n ?_ | refine block_r ?_ | refine exit_here ?_ | refine exit_on rfl ?_ | refine scope_n ?_ | refine scope_r ?_ | refine scope_e ?_ | refine cut_awp ?_))
    obtain ⟨made_4, h3, hh⟩ := bind_ex hh
    obtain ⟨of_5, h4, hh⟩ := bind_ex hh
    refine awp_first fun K kk hK => ?_
    simp only [go_sem]
    refine step_call2 (diptychlaw3_made_ok _ _ h3) (by try simp only [go_sem]; (repeat (first | exact WkL.refl _ | exact Wk.refl _ | exact Wk.nil _ | refine WkL.cons _ _ _ _ ?_ ?_ | exact WkL.nil | refine Wk.agg _ _ ?_ | refine Wk.tup _ _ ?_))) (by rfl) (by rfl) ?_
    simp only [go_sem]
    refine step_call2 (token_Of_ok _ _ h4).list (by try simp only [go_sem]; (repeat (first | exact WkL.refl _ | exact Wk.refl _ | exact Wk.nil _ | refine WkL.cons _ _ _ _ ?_ ?_ | exact WkL.nil | refine Wk.agg _ _ ?_ | refine Wk.tup _ _ ?_))) (by rfl) (by rfl) ?_
    simp only [go_sem]
    refine hK _ _ fun nx => ?_; clear hK K; try clear kk
    obtain ⟨made_6, h5, hh⟩ := bind_ex hh
    obtain ⟨of_7, h6, hh⟩ := bind_ex hh
    refine awp_first fun K kk hK => ?_
    simp only [go_sem]
    refine step_call2 (diptychlaw3_made_ok _ _ h5) (by try simp only [go_sem]; (repeat (first | exact WkL.refl _ | exact Wk.refl _ | exact Wk.nil _ | refine WkL.cons _ _ _ _ ?_ ?_ | exact WkL.nil | refine Wk.agg _ _ ?_ | refine Wk.tup _ _ ?_))) (by rfl) (by rfl) ?_
    simp only [go_sem]
    refine step_call2 (token_Of_ok _ _ h6).list (by try simp only [go_sem]; (repeat (first | exact WkL.refl _ | exact Wk.refl _ | exact Wk.nil _ | refine WkL.cons _ _ _ _ ?_ ?_ | exact WkL.nil | refine Wk.agg _ _ ?_ | refine Wk.tup _ _ ?_))) (by rfl) (by rfl) ?_
    simp only [go_sem]
    refine hK _ _ fun nx => ?_; clear hK K; try clear kk
    obtain ⟨same_8, h7, hh⟩ := bind_ex hh
    refine awp_first fun K kk hK => ?_
    simp only [go_sem]
    refine step_call2 (token_Same_ok _ _ _ h7) (by try simp only [go_sem]; (repeat (first | exact WkL.refl _ | exact Wk.refl _ | exact Wk.nil _ | refine WkL.cons _ _ _ _ ?_ ?_ | exact WkL.nil | refine Wk.agg _ _ ?_ | refine Wk.tup _ _ ?_))) (by rfl) (by rfl) ?_
    simp only [go_sem]
    refine hK _ _ fun nx => ?_; clear hK K; try clear kk
    obtain ⟨back_9, h8, hh⟩ := bind_ex hh
    refine awp_first fun K kk hK => ?_
    simp only [go_sem]
    refine step_call2 (token_Back_ok _ _ _ h8) (by try simp only [go_sem]; (repeat (first | exact WkL.refl _ | exact Wk.refl _ | exact Wk.nil _ | refine WkL.cons _ _ _ _ ?_ ?_ | exact WkL.nil | refine Wk.agg _ _ ?_ | refine Wk.tup _ _ ?_))) (by rfl) (by rfl) ?_
    simp only [go_sem]
    refine hK _ _ fun nx => ?_; clear hK K; try clear kk
    refine awp_seq ?_
    by_cases h9 : (decide ((w64 (same_8 + back_9)) > (if (of_7.length : Int) < (of_5.length : Int) then (of_7.length : Int) else (of_5.length : Int)))) = true
    · rw [if_pos h9] at hh
      refine awp_first fun K kk hK => ?_
      simp only [go_sem, h9, of_decide_eq_true h9, h9, of_decide_eq_true h9]
      (repeat (refine And.intro ?_ ?_; focus (first | assumption | (try simp only [List.length_append, List.length_cons, List.length_nil] at *; omega))))
      refine hK _ _ fun nx => ?_; clear hK K; try clear kk
      refine awp_true rfl ?_
      refine awp_first fun K kk hK => ?_
      simp only [go_sem]
      refine hK _ _ fun nx => ?_; clear hK K; try clear kk
      refine awp_ret ?_; (repeat (with_reducible first | refine then_n ?_ | refine then_r ?_ | refine then_e ?_ | refine block_n ?_ | refine block_r ?_ | refine exit_here ?_ | refine exit_on rfl ?_ | refine scope_n ?_ | refine scope_r ?_ | refine scope_e ?_ | refine cut_awp ?_))
      obtain hR := Option.some.inj hh
      subst hR
      refine ret_pure2 ?_ (by rfl)
      simp only [go_sem, rvsRes, rvRes, cellRes, tupOf, pur2, List.map_cons, List.map_append, List.head?_cons]
      (repeat (first | exact Wk.refl _ | exact WkL.refl _ | exact Wk.nil _ | refine Wk.agg _ _ ?_ | refine Wk.tup _ _ ?_ | refine WkL.cons _ _ _ _ ?_ ?_ | exact WkL.nil))
    · rw [if_neg h9] at hh
      replace h9 := Bool.eq_false_iff.mpr h9
      by_cases h10 : (decide (same_8 < (0 : Int))) = true
      · rw [if_pos h10] at hh
        refine awp_first fun K kk hK => ?_
        simp only [go_sem, h9, of_decide_eq_false h9, h9, of_decide_eq_false h9, h10, of_decide_eq_true h10, h10, of_decide_eq_true h10]
        (repeat (refine And.intro ?_ ?_; focus (first | assumption | (try simp only [List.length_append, List.length_cons, List.length_nil] at *; omega))))
        refine hK _ _ fun nx => ?_; clear hK K; try clear kk
        refine awp_true rfl ?_
        refine awp_first fun K kk hK => ?_
        simp only [go_sem]
        refine hK _ _ fun nx => ?_; clear hK K; try clear kk
        refine awp_ret ?_; (repeat (with_reducible first | refine then_n ?_ | refine then_r ?_ | refine then_e ?_ | refine block_n ?_ | refine block_r ?_ | refine exit_here ?_ | refine exit_on rfl ?_ | refine scope_n ?_ | refine scope_r ?_ | refine scope_e ?_ | refine cut_awp ?_))
        obtain hR := Option.some.inj hh
        subst hR
        refine ret_pure2 ?_ (by rfl)
        simp only [go_sem, rvsRes, rvRes, cellRes, tupOf, pur2, List.map_cons, List.map_append, List.head?_cons]
        (repeat (first | exact Wk.refl _ | exact WkL.refl _ | exact Wk.nil _ | refine Wk.agg _ _ ?_ | refine Wk.tup _ _ ?_ | refine WkL.cons _ _ _ _ ?_ ?_ | exact WkL.nil))
      · rw [if_neg h10] at hh
        replace h10 := Bool.eq_false_iff.mpr h10
        refine awp_first fun K kk hK => ?_
        simp only [go_sem, h9, of_decide_eq_false h9, h9, of_decide_eq_false h9, h10, of_decide_eq_false h10, h10, of_decide_eq_false h10]
        (repeat (refine And.intro ?_ ?_; focus (first | assumption | (try simp only [List.length_append, List.length_cons, List.length_nil] at *; omega))))
        refine hK _ _ fun nx => ?_; clear hK K; try clear kk
        by_cases h11 : (decide (back_9 < (0 : Int))) = true
        · rw [if_pos h11] at hh
          refine awp_true (by first | exact congrArg PV.bool h11 | rfl) ?_
          refine awp_first fun K kk hK => ?_
          simp only [go_sem]
          refine hK _ _ fun nx => ?_; clear hK K; try clear kk
          refine awp_ret ?_; (repeat (with_reducible first | refine then_n ?_ | refine then_r ?_ | refine then_e ?_ | refine block_n ?_ | refine block_r ?_ | refine exit_here ?_ | refine exit_on rfl ?_ | refine scope_n ?_ | refine scope_r ?_ | refine scope_e ?_ | refine cut_awp ?_))
          obtain hR := Option.some.inj hh
          subst hR
          refine ret_pure2 ?_ (by rfl)
          simp only [go_sem, rvsRes, rvRes, cellRes, tupOf, pur2, List.map_cons, List.map_append, List.head?_cons]
          (repeat (first | exact Wk.refl _ | exact WkL.refl _ | exact Wk.nil _ | refine Wk.agg _ _ ?_ | refine Wk.tup _ _ ?_ | refine WkL.cons _ _ _ _ ?_ ?_ | exact WkL.nil))
        · rw [if_neg h11] at hh
          replace h11 := Bool.eq_false_iff.mpr h11
          refine awp_false (by first | exact congrArg PV.bool h11 | rfl) ?_
          refine awp_skip ?_; (repeat (with_reducible first | refine then_n ?_ | refine then_r ?_ | refine then_e ?_ | refine block_n ?_ | refine block_r ?_ | refine exit_here ?_ | refine exit_on rfl ?_ | refine scope_n ?_ | refine scope_r ?_ | refine scope_e ?_ | refine cut_awp ?_))
          obtain ⟨s_10, h12, hh⟩ := bind_ex hh
          obtain ⟨h12a, h12c⟩ := sl_some h12
          have h12g := sl_le h12a
          have h12d := sl_map0 (f := token_Token.pv) h12c
          try simp only [Int.toNat_natCast, Int.reduceToNat, List.map_cons, List.map_nil, diptychlaw3_Cell.pv_eq, api_Attr.pv_eq, api_Node.pv_eq, token_Token.pv_eq, diptychref3_Token.pv_eq, pvL] at h12d
          obtain ⟨l_11, h13, hh⟩ := bind_ex hh
          obtain ⟨h13a, h13c⟩ := app_some h13
          have h13d := app_map (f := token_Token.pv) h13c
          have h13e := app_len h13c
          try simp only [List.length_cons, List.length_nil, Nat.zero_add, Nat.reduceAdd] at h13a h13e
          try simp only [h13e] at h13a
          try simp only [List.map_cons, List.map_nil, List.nil_append, List.append_nil, List.cons_append, List.singleton_append, rune1, diptychlaw3_Cell.pv_eq, api_Attr.pv_eq, api_Node.pv_eq, token_Token.pv_eq, diptychref3_Token.pv_eq, pvL] at h13d
          refine awp_first fun K kk hK => ?_
          simp only [go_sem, h12a.1, h12a.2.1, h12a.2.2, h12d, h12g, h13a, h13d, h13e]
          (repeat (refine And.intro ?_ ?_; focus (first | assumption | (try simp only [List.length_append, List.length_cons, List.length_nil] at *; omega))))
          refine hK _ _ fun nx => ?_; clear hK K; try clear kk
          obtain ⟨s_12, h14, hh⟩ := bind_ex hh
          obtain ⟨h14a, h14c⟩ := sl_some h14
          have h14g := sl_le h14a
          have h14d := sl_map (f := token_Token.pv) h14c
          try simp only [Int.toNat_natCast, Int.reduceToNat, List.map_cons, List.map_nil, diptychlaw3_Cell.pv_eq, api_Attr.pv_eq, api_Node.pv_eq, token_Token.pv_eq, diptychref3_Token.pv_eq, pvL] at h14d
          obtain ⟨l_13, h15, hh⟩ := bind_ex hh
          obtain ⟨h15a, h15c⟩ := app_some h15
          have h15d := app_map (f := token_Token.pv) h15c
          have h15e := app_len h15c
          try simp only [List.length_cons, List.length_nil, Nat.zero_add, Nat.reduceAdd] at h15a h15e
          try simp only [h15e] at h15a
          try simp only [List.map_cons, List.map_nil, List.nil_append, List.append_nil, List.cons_append, List.singleton_append, rune1, diptychlaw3_Cell.pv_eq, api_Attr.pv_eq, api_Node.pv_eq, token_Token.pv_eq, diptychref3_Token.pv_eq, pvL] at h15d
          refine awp_first fun K kk hK => ?_
          simp only [go_sem, h14a.1, h14a.2.1, h14a.2.2, h14d, h14g, h15a, h15d, h15e]
          (repeat (refine And.intro ?_ ?_; focus (first | assumption | (try simp only [List.length_append, List.length_cons, List.length_nil] at *; omega))))
          refine hK _ _ fun nx => ?_; clear hK K; try clear kk
          obtain ⟨s_14, h16, hh⟩ := bind_ex hh
          obtain ⟨h16a, h16c⟩ := sl_some h16
          have h16g := sl_le h16a
          have h16d := sl_map1 (f := token_Token.pv) h16c
          try simp only [Int.toNat_natCast, Int.reduceToNat, List.map_cons, List.map_nil, diptychlaw3_Cell.pv_eq, api_Attr.pv_eq, api_Node.pv_eq, token_Token.pv_eq, diptychref3_Token.pv_eq, pvL] at h16d
          obtain ⟨l_15, h17, hh⟩ := bind_ex hh
          obtain ⟨h17a, h17c⟩ := app_some h17
          have h17d := app_map (f := token_Token.pv) h17c
          have h17e := app_len h17c
          try simp only [List.length_cons, List.length_nil, Nat.zero_add, Nat.reduceAdd] at h17a h17e
          try simp only [h17e] at h17a
          try simp only [List.map_cons, List.map_nil, List.nil_append, List.append_nil, List.cons_append, List.singleton_append, rune1, diptychlaw3_Cell.pv_eq, api_Attr.pv_eq, api_Node.pv_eq, token_Token.pv_eq, diptychref3_Token.pv_eq, pvL] at h17d
          refine awp_first fun K kk hK => ?_
          simp only [go_sem, h16a.1, h16a.2.1, h16a.2.2, h16d, h16g, h17a, h17d, h17e]
          (repeat (refine And.intro ?_ ?_; focus (first | assumption | (try simp only [List.length_append, List.length_cons, List.length_nil] at *; omega))))
          refine hK _ _ fun nx => ?_; clear hK K; try clear kk
          obtain ⟨as_16, h18, hh⟩ := bind_ex hh
          obtain ⟨same_17, h19, hh⟩ := bind_ex hh
          by_cases h20 : (same_17) = true
          · rw [if_pos h20] at hh
            obtain ⟨same_18, h21, hh⟩ := bind_ex hh
            by_cases h22 : (same_18 == same_8) = true
            · rw [if_pos h22] at hh
              obtain ⟨back_19, h23, hh⟩ := bind_ex hh
              refine awp_first fun K kk hK => ?_
              simp only [go_sem, h20, h20, h22, h22]
              (repeat (refine And.intro ?_ ?_; focus (first | assumption | (try simp only [List.length_append, List.length_cons, List.length_nil] at *; omega))))
              refine step_call2 (diptychlaw3_as_ok _ _ h18).list (by try simp only [go_sem, h20, h20, h22, h22]; (repeat (first | exact WkL.refl _ | exact Wk.refl _ | exact Wk.nil _ | refine WkL.cons _ _ _ _ ?_ ?_ | exact WkL.nil | refine Wk.agg _ _ ?_ | refine Wk.tup _ _ ?_))) (by rfl) (by rfl) ?_
              simp only [go_sem, h20, h20, h22, h22]
              (repeat (refine And.intro ?_ ?_; focus (first | assumption | (try simp only [List.length_append, List.length_cons, List.length_nil] at *; omega))))
              refine step_call2 (diptychlaw3_same_ok _ _ _ h19) (by try simp only [go_sem, h20, h20, h22, h22]; (repeat (first | exact WkL.refl _ | exact Wk.refl _ | exact Wk.nil _ | refine WkL.cons _ _ _ _ ?_ ?_ | exact WkL.nil | refine Wk.agg _ _ ?_ | refine Wk.tup _ _ ?_))) (by rfl) (by rfl) ?_
              simp only [go_sem, h20, h20, h22, h22]
              (repeat (refine And.intro ?_ ?_; focus (first | assumption | (try simp only [List.length_append, List.length_cons, List.length_nil] at *; omega))))
              refine step_call2 (token_Same_ok _ _ _ h21) (by try simp only [go_sem, h20, h20, h22, h22]; (repeat (first | exact WkL.refl _ | exact Wk.refl _ | exact Wk.nil _ | refine WkL.cons _ _ _ _ ?_ ?_ | exact WkL.nil | refine Wk.agg _ _ ?_ | refine Wk.tup _ _ ?_))) (by rfl) (by rfl) ?_
              simp only [go_sem, h20, h20, h22, h22]
              (repeat (refine And.intro ?_ ?_; focus (first | assumption | (try simp only [List.length_append, List.length_cons, List.length_nil] at *; omega))))
              refine step_call2 (token_Back_ok _ _ _ h23) (by try simp only [go_sem, h20, h20, h22, h22]; (repeat (first | exact WkL.refl _ | exact Wk.refl _ | exact Wk.nil _ | refine WkL.cons _ _ _ _ ?_ ?_ | exact WkL.nil | refine Wk.agg _ _ ?_ | refine Wk.tup _ _ ?_))) (by rfl) (by rfl) ?_
              simp only [go_sem, h20, h20, h22, h22]
              (repeat (refine And.intro ?_ ?_; focus (first | assumption | (try simp only [List.length_append, List.length_cons, List.length_nil] at *; omega))))
              refine hK _ _ fun nx => ?_; clear hK K; try clear kk
              refine awp_ret ?_; (repeat (with_reducible first | refine then_n ?_ | refine then_r ?_ | refine then_e ?_ | refine block_n ?_ | refine block_r ?_ | refine exit_here ?_ | refine exit_on rfl ?_ | refine scope_n ?_ | refine scope_r ?_ | refine scope_e ?_ | refine cut_awp ?_))
              obtain hR := Option.some.inj hh
              subst hR
              refine ret_pure2 ?_ (by rfl)
              simp only [go_sem, rvsRes, rvRes, cellRes, tupOf, pur2, List.map_cons, List.map_append, List.head?_cons]
              (repeat (first | exact Wk.refl _ | exact WkL.refl _ | exact Wk.nil _ | refine Wk.agg _ _ ?_ | refine Wk.tup _ _ ?_ | refine WkL.cons _ _ _ _ ?_ ?_ | exact WkL.nil))
            · rw [if_neg h22] at hh
              replace h22 := Bool.eq_false_iff.mpr h22
              refine awp_first fun K kk hK => ?_
              simp only [go_sem, h20, h20, h22, h22]
              (repeat (refine And.intro ?_ ?_; focus (first | assumption | (try simp only [List.length_append, List.length_cons, List.length_nil] at *; omega))))
              refine step_call2 (diptychlaw3_as_ok _ _ h18).list (by try simp only [go_sem, h20, h20, h22, h22]; (repeat (first | exact WkL.refl _ | exact Wk.refl _ | exact Wk.nil _ | refine WkL.cons _ _ _ _ ?_ ?_ | exact WkL.nil | refine Wk.agg _ _ ?_ | refine Wk.tup _ _ ?_))) (by rfl) (by rfl) ?_
              simp only [go_sem, h20, h20, h22, h22]
              (repeat (refine And.intro ?_ ?_; focus (first | assumption | (try simp only [List.length_append, List.length_cons, List.length_nil] at *; omega))))
              refine step_call2 (diptychlaw3_same_ok _ _ _ h19) (by try simp only [go_sem, h20, h20, h22, h22]; (repeat (first | exact WkL.refl _ | exact Wk.refl _ | exact Wk.nil _ | refine WkL.cons _ _ _ _ ?_ ?_ | exact WkL.nil | refine Wk.agg _ _ ?_ | refine Wk.tup _ _ ?_))) (by rfl) (by rfl) ?_
              simp only [go_sem, h20, h20, h22, h22]
              (repeat (refine And.intro ?_ ?_; focus (first | assumption | (try simp only [List.length_append, List.length_cons, List.length_nil] at *; omega))))
              refine step_call2 (token_Same_ok _ _ _ h21) (by try simp only [go_sem, h20, h20, h22, h22]; (repeat (first | exact WkL.refl _ | exact Wk.refl _ | exact Wk.nil _ | refine WkL.cons _ _ _ _ ?_ ?_ | exact WkL.nil | refine Wk.agg _ _ ?_ | refine Wk.tup _ _ ?_))) (by rfl) (by rfl) ?_
              simp only [go_sem, h20, h20, h22, h22]
              (repeat (refine And.intro ?_ ?_; focus (first | assumption | (try simp only [List.length_append, List.length_cons, List.length_nil] at *; omega))))
              refine hK _ _ fun nx => ?_; clear hK K; try clear kk
              refine awp_ret ?_; (repeat (with_reducible first | refine then_n ?_ | refine then_r ?_ | refine then_e ?_ | refine block_n ?_ | refine block_r ?_ | refine exit_here ?_ | refine exit_on rfl ?_ | refine scope_n ?_ | refine scope_r ?_ | refine scope_e ?_ | refine cut_awp ?_))
              obtain hR := Option.some.inj hh
              subst hR
              refine ret_pure2 ?_ (by rfl)
              simp only [go_sem, rvsRes, rvRes, cellRes, tupOf, pur2, List.map_cons, List.map_append, List.head?_cons]
              (repeat (first | exact Wk.refl _ | exact WkL.refl _ | exact Wk.nil _ | refine Wk.agg _ _ ?_ | refine Wk.tup _ _ ?_ | refine WkL.cons _ _ _ _ ?_ ?_ | exact WkL.nil))
          · rw [if_neg h20] at hh
            replace h20 := Bool.eq_false_iff.mpr h20
            refine awp_first fun K kk hK => ?_
            simp only [go_sem, h20, h20]
            (repeat (refine And.intro ?_ ?_; focus (first | assumption | (try simp only [List.length_append, List.length_cons, List.length_nil] at *; omega))))
            refine step_call2 (diptychlaw3_as_ok _ _ h18).list (by try simp only [go_sem, h20, h20]; (repeat (first | exact WkL.refl _ | exact Wk.refl _ | exact Wk.nil _ | refine WkL.cons _ _ _ _ ?_ ?_ | exact WkL.nil | refine Wk.agg _ _ ?_ | refine Wk.tup _ _ ?_))) (by rfl) (by rfl) ?_
            simp only [go_sem, h20, h20]
            (repeat (refine And.intro ?_ ?_; focus (first | assumption | (try simp only [List.length_append, List.length_cons, List.length_nil] at *; omega))))
            refine step_call2 (diptychlaw3_same_ok _ _ _ h19) (by try simp only [go_sem, h20, h20]; (repeat (first | exact WkL.refl _ | exact Wk.refl _ | exact Wk.nil _ | refine WkL.cons _ _ _ _ ?_ ?_ | exact WkL.nil | refine Wk.agg _ _ ?_ | refine Wk.tup _ _ ?_))) (by rfl) (by rfl) ?_
            simp only [go_sem, h20, h20]
            (repeat (refine And.intro ?_ ?_; focus (first | assumption | (try simp only [List.length_append, List.length_cons, List.length_nil] at *; omega))))
            refine hK _ _ fun nx => ?_; clear hK K; try clear kk
            refine awp_ret ?_; (repeat (with_reducible first | refine then_n ?_ | refine then_r ?_ | refine then_e ?_ | refine block_n ?_ | refine block_r ?_ | refine exit_here ?_ | refine exit_on rfl ?_ | refine scope_n ?_ | refine scope_r ?_ | refine scope_e ?_ | refine cut_awp ?_))
            obtain hR := Option.some.inj hh
            subst hR
            refine ret_pure2 ?_ (by rfl)
            simp only [go_sem, rvsRes, rvRes, cellRes, tupOf, pur2, List.map_cons, List.map_append, List.head?_cons]
            (repeat (first | exact Wk.refl _ | exact WkL.refl _ | exact Wk.nil _ | refine Wk.agg _ _ ?_ | refine Wk.tup _ _ ?_ | refine WkL.cons _ _ _ _ ?_ ?_ | exact WkL.nil))

end Go.Proofs.YtlgjbmgmoaphjaaDoor
