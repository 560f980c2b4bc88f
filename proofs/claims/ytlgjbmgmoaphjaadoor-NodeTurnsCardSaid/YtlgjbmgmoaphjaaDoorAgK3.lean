/- What the functions answer, the program answers (3). -/
import Derived.Test.YtlgjbmgmoaphjaaDoorAgC
import Derived.Test.YtlgjbmgmoaphjaaDoorAgF
import Derived.Test.YtlgjbmgmoaphjaaDoorAgK1
import Derived.Test.YtlgjbmgmoaphjaaDoorAgK2
namespace Go.Proofs.YtlgjbmgmoaphjaaDoor
set_option linter.unusedSimpArgs false
set_option linter.unusedVariables false
open Go
set_option maxRecDepth 100000

theorem diptychref1_Same_grp : ∀ kr : Nat, (∀ (a_1 : api_Node) (b_2 : api_Node) (R : Bool), diptychref1_Same_k kr a_1 b_2 = some R → PC Tryd.prog 65 [.agg [.str a_1.Kind, .str a_1.Text, .list 1 (a_1.Marks.map PV.str), .list 2 (a_1.Attrs.map api_Attr.pv), .list 5 (a_1.Kids.map api_Node.pv)], .agg [.str b_2.Kind, .str b_2.Text, .list 1 (b_2.Marks.map PV.str), .list 2 (b_2.Attrs.map api_Attr.pv), .list 5 (b_2.Kids.map api_Node.pv)]] (.bool R)) ∧
    (∀ (a_1 : (List api_Node)) (b_2 : (List api_Node)) (R : Bool), diptychref1_SameAll_k kr a_1 b_2 = some R → PC Tryd.prog 37 [.list 5 (a_1.map api_Node.pv), .list 5 (b_2.map api_Node.pv)] (.bool R)) := by
  intro kr
  induction kr with
  | zero => exact ⟨(by intro a_1 b_2 R hh; rw [diptychref1_Same_k] at hh; cases hh), (by intro a_1 b_2 R hh; rw [diptychref1_SameAll_k] at hh; cases hh)⟩
  | succ kr ih =>
    obtain ⟨ih_diptychref1_Same, ih_diptychref1_SameAll⟩ := ih
    refine ⟨?_, ?_⟩
    · intro a_1 b_2 R hh
      rw [diptychref1_Same_k] at hh
      refine start_diptychref1_Same rfl ?_
      refine awp_first fun K kk hK => ?_
      simp only [go_sem]
      refine hK _ _ fun nx => ?_; clear hK K; try clear kk
      refine awp_seq ?_
      by_cases h1 : (!(a_1.Kind == b_2.Kind)) = true
      · rw [if_pos h1] at hh
        refine awp_first fun K kk hK => ?_
        simp only [go_sem, h1, h1]
        (repeat (refine And.intro ?_ ?_; focus (first | assumption | (try simp only [List.length_append, List.length_cons, List.length_nil] at *; omega))))
        refine hK _ _ fun nx => ?_; clear hK K; try clear kk
        refine awp_true rfl ?_
        refine awp_first fun K kk hK => ?_
        simp only [go_sem]
        refine hK _ _ fun nx => ?_; clear hK K; try clear kk
        refine awp_ret ?_; (repeat (with_reducible first | refine then_n ?_ | refine then_r ?_ | refine then_e ?_ | refine block_n ?_ | refine block_r ?_ | refine exit_here ?_ | refine exit_on rfl ?_ | refine scope_n ?_ | refine scope_r ?_ | refine scope_e ?_ | refine cut_awp ?_))
        obtain hR := Option.some.inj hh
        subst hR
        refine ret_pure2 ?_ (by rfl)
        simp only [go_sem, rvsRes, rvRes, cellRes, tupOf, pur2, List.map_cons, List.map_append, List.head?_cons]
        (repeat (first | exact Wk.refl _ | exact WkL.refl _ | exact Wk.nil _ | refine Wk.agg _ _ ?_ | refine Wk.tup _ _ ?_ | refine WkL.cons _ _ _ _ ?_ ?_ | exact WkL.nil))
      · rw [if_neg h1] at hh
        replace h1 := Bool.eq_false_iff.mpr h1
        by_cases h2 : (!(a_1.Text == b_2.Text)) = true
        · rw [if_pos h2] at hh
          refine awp_first fun K kk hK => ?_
          simp only [go_sem, h1, h1, h2, h2]
          (repeat (refine And.intro ?_ ?_; focus (first | assumption | (try simp only [List.length_append, List.length_cons, List.length_nil] at *; omega))))
          refine hK _ _ fun nx => ?_; clear hK K; try clear kk
          refine awp_true rfl ?_
          refine awp_first fun K kk hK => ?_
          simp only [go_sem]
          refine hK _ _ fun nx => ?_; clear hK K; try clear kk
          refine awp_ret ?_; (repeat (with_reducible first | refine then_n ?_ | refine then_r ?_ | refine then_e ?_ | refine block_n ?_ | refine block_r ?_ | refine exit_here ?_ | refine exit_on rfl ?_ | refine scope_n ?_ | refine scope_r ?_ | refine scope_e ?_ | refine cut_awp ?_))
          obtain hR := Option.some.inj hh
          subst hR
          refine ret_pure2 ?_ (by rfl)
          simp only [go_sem, rvsRes, rvRes, cellRes, tupOf, pur2, List.map_cons, List.map_append, List.head?_cons]
          (repeat (first | exact Wk.refl _ | exact WkL.refl _ | exact Wk.nil _ | refine Wk.agg _ _ ?_ | refine Wk.tup _ _ ?_ | refine WkL.cons _ _ _ _ ?_ ?_ | exact WkL.nil))
        · rw [if_neg h2] at hh
          replace h2 := Bool.eq_false_iff.mpr h2
          obtain ⟨samena_3, h3, hh⟩ := bind_ex hh
          by_cases h4 : (!samena_3) = true
          · rw [if_pos h4] at hh
            refine awp_first fun K kk hK => ?_
            simp only [go_sem, h1, h1, h2, h2, h4, h4]
            (repeat (refine And.intro ?_ ?_; focus (first | assumption | (try simp only [List.length_append, List.length_cons, List.length_nil] at *; omega))))
            refine step_call2 (diptychref1_sameNames_ok _ _ _ h3) (by try simp only [go_sem, h1, h1, h2, h2, h4, h4]; (repeat (first | exact WkL.refl _ | exact Wk.refl _ | exact Wk.nil _ | refine WkL.cons _ _ _ _ ?_ ?_ | exact WkL.nil | refine Wk.agg _ _ ?_ | refine Wk.tup _ _ ?_))) (by rfl) (by rfl) ?_
            simp only [go_sem, h1, h1, h2, h2, h4, h4]
            (repeat (refine And.intro ?_ ?_; focus (first | assumption | (try simp only [List.length_append, List.length_cons, List.length_nil] at *; omega))))
            refine hK _ _ fun nx => ?_; clear hK K; try clear kk
            refine awp_true rfl ?_
            refine awp_first fun K kk hK => ?_
            simp only [go_sem]
            refine hK _ _ fun nx => ?_; clear hK K; try clear kk
            refine awp_ret ?_; (repeat (with_reducible first | refine then_n ?_ | refine then_r ?_ | refine then_e ?_ | refine block_n ?_ | refine block_r ?_ | refine exit_here ?_ | refine exit_on rfl ?_ | refine scope_n ?_ | refine scope_r ?_ | refine scope_e ?_ | refine cut_awp ?_))
            obtain hR := Option.some.inj hh
            subst hR
            refine ret_pure2 ?_ (by rfl)
            simp only [go_sem, rvsRes, rvRes, cellRes, tupOf, pur2, List.map_cons, List.map_append, List.head?_cons]
            (repeat (first | exact Wk.refl _ | exact WkL.refl _ | exact Wk.nil _ | refine Wk.agg _ _ ?_ | refine Wk.tup _ _ ?_ | refine WkL.cons _ _ _ _ ?_ ?_ | exact WkL.nil))
          · rw [if_neg h4] at hh
            replace h4 := Bool.eq_false_iff.mpr h4
            refine awp_first fun K kk hK => ?_
            simp only [go_sem, h1, h1, h2, h2, h4, h4]
            (repeat (refine And.intro ?_ ?_; focus (first | assumption | (try simp only [List.length_append, List.length_cons, List.length_nil] at *; omega))))
            refine step_call2 (diptychref1_sameNames_ok _ _ _ h3) (by try simp only [go_sem, h1, h1, h2, h2, h4, h4]; (repeat (first | exact WkL.refl _ | exact Wk.refl _ | exact Wk.nil _ | refine WkL.cons _ _ _ _ ?_ ?_ | exact WkL.nil | refine Wk.agg _ _ ?_ | refine Wk.tup _ _ ?_))) (by rfl) (by rfl) ?_
            simp only [go_sem, h1, h1, h2, h2, h4, h4]
            (repeat (refine And.intro ?_ ?_; focus (first | assumption | (try simp only [List.length_append, List.length_cons, List.length_nil] at *; omega))))
            refine hK _ _ fun nx => ?_; clear hK K; try clear kk
            by_cases h5 : ((a_1.Attrs.length : Int) != (b_2.Attrs.length : Int)) = true
            · rw [if_pos h5] at hh
              refine awp_true (by first | exact congrArg PV.bool h5 | rfl) ?_
              refine awp_first fun K kk hK => ?_
              simp only [go_sem]
              refine hK _ _ fun nx => ?_; clear hK K; try clear kk
              refine awp_ret ?_; (repeat (with_reducible first | refine then_n ?_ | refine then_r ?_ | refine then_e ?_ | refine block_n ?_ | refine block_r ?_ | refine exit_here ?_ | refine exit_on rfl ?_ | refine scope_n ?_ | refine scope_r ?_ | refine scope_e ?_ | refine cut_awp ?_))
              obtain hR := Option.some.inj hh
              subst hR
              refine ret_pure2 ?_ (by rfl)
              simp only [go_sem, rvsRes, rvRes, cellRes, tupOf, pur2, List.map_cons, List.map_append, List.head?_cons]
              (repeat (first | exact Wk.refl _ | exact WkL.refl _ | exact Wk.nil _ | refine Wk.agg _ _ ?_ | refine Wk.tup _ _ ?_ | refine WkL.cons _ _ _ _ ?_ ?_ | exact WkL.nil))
            · rw [if_neg h5] at hh
              replace h5 := Bool.eq_false_iff.mpr h5
              refine awp_false (by first | exact congrArg PV.bool h5 | rfl) ?_
              refine awp_skip ?_; (repeat (with_reducible first | refine then_n ?_ | refine then_r ?_ | refine then_e ?_ | refine block_n ?_ | refine block_r ?_ | refine exit_here ?_ | refine exit_on rfl ?_ | refine scope_n ?_ | refine scope_r ?_ | refine scope_e ?_ | refine cut_awp ?_))
              refine awp_seq ?_
              refine awp_first fun K kk hK => ?_
              simp only [go_sem]
              refine hK _ _ fun nx => ?_; clear hK K; try clear kk
              obtain ⟨e0, f0, hh⟩ := bind_ex hh
              obtain ⟨hlen0, f0⟩ := chk_some f0
              refine awp_fragE (CutTo (fun s => .inr () = e0 ∧ ∃ (i_12 : Int) (v_13 : Bool) (nx : Nat) (g2 : Nat) (g3 : Nat), s = ⟨[(2, .box 2 g2 0), (3, .box 3 g3 0), (5, .int .i64 i_12), (39, .bool v_13)], [(2, g2, .var [.str a_1.Kind, .str a_1.Text, .list 1 (a_1.Marks.map PV.str), .list 2 (a_1.Attrs.map api_Attr.pv), .list 5 (a_1.Kids.map api_Node.pv)]), (3, g3, .var [.str b_2.Kind, .str b_2.Text, .list 1 (b_2.Marks.map PV.str), .list 2 (b_2.Attrs.map api_Attr.pv), .list 5 (b_2.Kids.map api_Node.pv)])], nx⟩))
                (fun i s => False)
                (fun s => ∃ res_11, .inl res_11 = e0 ∧ bodyR Tryd.prog [.tmp 4] (.bool res_11) [] .ret s) ?_ ?_ ?_ ?_
              · refine awp_block ?_
                refine awp_loopJ fun I hI => ?_
                have key : ∀ (suf pre : List api_Attr) (i_6 : Int), a_1.Attrs = pre ++ suf → i_6 = (pre.length : Int) → diptychref1_Same_l0 b_2 suf i_6 = some e0 → ∀ (nx : Nat) (g2 : Nat) (g3 : Nat), I ⟨[(2, .box 2 g2 0), (3, .box 3 g3 0), (5, .int .i64 i_6)], [(2, g2, .var [.str a_1.Kind, .str a_1.Text, .list 1 (a_1.Marks.map PV.str), .list 2 (a_1.Attrs.map api_Attr.pv), .list 5 (a_1.Kids.map api_Node.pv)]), (3, g3, .var [.str b_2.Kind, .str b_2.Text, .list 1 (b_2.Marks.map PV.str), .list 2 (b_2.Attrs.map api_Attr.pv), .list 5 (b_2.Kids.map api_Node.pv)])], nx⟩ := by
                  intro suf
                  induction suf with
                  | nil =>
                    intro pre i_6 hsplit hidx hh nx g2 g3
                    rw [diptychref1_Same_l0] at hh
                    refine hI _ ?_
                    have h14 := walk_nil hsplit hidx
                    refine awp_seq ?_
                    refine awp_first fun K kk hK => ?_
                    simp only [go_sem]
                    refine hK _ _ fun nx => ?_; clear hK K; try clear kk
                    refine awp_false (by first | exact congrArg PV.bool h14 | rfl) ?_
                    refine awp_exit ?_; (repeat (with_reducible first | refine then_n ?_ | refine then_r ?_ | refine then_e ?_ | refine block_n ?_ | refine block_r ?_ | refine exit_here ?_ | refine exit_on rfl ?_ | refine scope_n ?_ | refine scope_r ?_ | refine scope_e ?_ | refine cut_awp ?_))
                    refine fragN ?_
                    refine cut_id ?_
                    refine ⟨(Option.some.inj hh), ?_⟩
                    first | exact ⟨_, _, _, _, _, rfl⟩ | (simp only [diptychlaw1_Cell.pv_eq, api_Attr.pv_eq, api_Node.pv_eq, pvL, List.map_cons, List.map_nil, List.map_append, rune1]; exact ⟨_, _, _, _, _, rfl⟩)
                  | cons y_9 suf ih =>
                    intro pre i_6 hsplit hidx hh nx g2 g3
                    rw [diptychref1_Same_l0] at hh
                    refine hI _ ?_
                    obtain ⟨hl0a, hl0b, hl0d, hl0w, h14⟩ := walk_cons (f := api_Attr.pv) hsplit hidx hlen0
                    refine awp_seq ?_
                    refine awp_first fun K kk hK => ?_
                    simp only [go_sem]
                    refine hK _ _ fun nx => ?_; clear hK K; try clear kk
                    refine awp_true (by first | exact congrArg PV.bool h14 | rfl) ?_
                    refine awp_skip ?_; (repeat (with_reducible first | refine then_n ?_ | refine then_r ?_ | refine then_e ?_ | refine block_n ?_ | refine block_r ?_ | refine exit_here ?_ | refine exit_on rfl ?_ | refine scope_n ?_ | refine scope_r ?_ | refine scope_e ?_ | refine cut_awp ?_))
                    refine awp_seq ?_
                    refine awp_block ?_
                    obtain ⟨x_10, h15, hh⟩ := bind_ex hh
                    obtain ⟨h15a, h15b, h15c⟩ := rd_some h15
                    have h15d := rd_get (f := api_Attr.pv) h15c
                    have h15f := rd_more (f := api_Attr.pv) h15c
                    try simp only [Int.toNat_natCast, Int.reduceToNat] at h15d h15f
                    refine awp_first fun K kk hK => ?_
                    simp only [go_sem, h15a, h15b, h15d, h15f.1, h15f.2, hl0a, hl0b, hl0d, hl0w]
                    (repeat (refine And.intro ?_ ?_; focus (first | assumption | (try simp only [List.length_append, List.length_cons, List.length_nil] at *; omega))))
                    refine hK _ _ fun nx => ?_; clear hK K; try clear kk
                    by_cases h16 : ((((y_9.Name == x_10.Name) && (y_9.Value == x_10.Value)) != true)) = true
                    · rw [if_pos h16] at hh
                      refine awp_true (by first | exact congrArg PV.bool h16 | rfl) ?_
                      refine awp_first fun K kk hK => ?_
                      simp only [go_sem, hl0a, hl0b, hl0d, hl0w]
                      refine hK _ _ fun nx => ?_; clear hK K; try clear kk
                      refine awp_ret ?_; (repeat (with_reducible first | refine then_n ?_ | refine then_r ?_ | refine then_e ?_ | refine block_n ?_ | refine block_r ?_ | refine exit_here ?_ | refine exit_on rfl ?_ | refine scope_n ?_ | refine scope_r ?_ | refine scope_e ?_ | refine cut_awp ?_))
                      refine fragR ⟨_, (Option.some.inj hh), ?_⟩
                      refine ret_pure2 ?_ (by rfl)
                      simp only [go_sem, rvsRes, rvRes, cellRes, tupOf, pur2, List.map_cons, List.map_append, List.head?_cons]
                      (repeat (first | exact Wk.refl _ | exact WkL.refl _ | exact Wk.nil _ | refine Wk.agg _ _ ?_ | refine Wk.tup _ _ ?_ | refine WkL.cons _ _ _ _ ?_ ?_ | exact WkL.nil))
                    · rw [if_neg h16] at hh
                      replace h16 := Bool.eq_false_iff.mpr h16
                      refine awp_false (by first | exact congrArg PV.bool h16 | rfl) ?_
                      refine awp_skip ?_; (repeat (with_reducible first | refine then_n ?_ | refine then_r ?_ | refine then_e ?_ | refine block_n ?_ | refine block_r ?_ | refine exit_here ?_ | refine exit_on rfl ?_ | refine scope_n ?_ | refine scope_r ?_ | refine scope_e ?_ | refine cut_awp ?_))
                      refine awp_region fun K kk hK => ?_
                      simp only [go_sem, hl0a, hl0b, hl0d, hl0w]
                      refine hK _ _ fun nx => ?_; clear hK K; try clear kk
                      (repeat (with_reducible first | refine then_n ?_ | refine then_r ?_ | refine then_e ?_ | refine block_n ?_ | refine block_r ?_ | refine exit_here ?_ | refine exit_on rfl ?_ | refine scope_n ?_ | refine scope_r ?_ | refine scope_e ?_ | refine cut_awp ?_))
                      have ih' := ih (pre ++ [y_9]) (i_6 + 1) (by rw [hsplit]; simp) (by simp [hidx]) hh nx
                      refine cut_id ?_
                      first | exact ih' _ _ | (simp only [diptychlaw1_Cell.pv_eq, api_Attr.pv_eq, api_Node.pv_eq, pvL, List.map_cons, List.map_nil, List.map_append, rune1] at ih' ⊢; exact ih' _ _)
                exact key a_1.Attrs [] _ rfl rfl f0 _ _ _
              · rintro s ⟨t, hless, rfl, i_12, v_13, nx, g2, g3, rfl⟩
                try dsimp only at hh
                (repeat (with_reducible first | refine then_n ?_ | refine then_r ?_ | refine then_e ?_ | refine block_n ?_ | refine block_r ?_ | refine exit_here ?_ | refine exit_on rfl ?_ | refine scope_n ?_ | refine scope_r ?_ | refine scope_e ?_))
                first | (refine cut_less hless ?_; try refine cut_awp ?_) | refine frag_less hless ?_
                obtain ⟨sameal_14, h17, hh⟩ := bind_ex hh
                refine awp_first fun K kk hK => ?_
                simp only [go_sem]
                refine step_call2 (ih_diptychref1_SameAll _ _ _ h17) (by try simp only [go_sem]; (repeat (first | exact WkL.refl _ | exact Wk.refl _ | exact Wk.nil _ | refine WkL.cons _ _ _ _ ?_ ?_ | exact WkL.nil | refine Wk.agg _ _ ?_ | refine Wk.tup _ _ ?_))) (by rfl) (by rfl) ?_
                simp only [go_sem]
                refine hK _ _ fun nx => ?_; clear hK K; try clear kk
                refine awp_ret ?_; (repeat (with_reducible first | refine then_n ?_ | refine then_r ?_ | refine then_e ?_ | refine block_n ?_ | refine block_r ?_ | refine exit_here ?_ | refine exit_on rfl ?_ | refine scope_n ?_ | refine scope_r ?_ | refine scope_e ?_ | refine cut_awp ?_))
                obtain hR := Option.some.inj hh
                subst hR
                refine ret_pure2 ?_ (by rfl)
                simp only [go_sem, rvsRes, rvRes, cellRes, tupOf, pur2, List.map_cons, List.map_append, List.head?_cons]
                (repeat (first | exact Wk.refl _ | exact WkL.refl _ | exact Wk.nil _ | refine Wk.agg _ _ ?_ | refine Wk.tup _ _ ?_ | refine WkL.cons _ _ _ _ ?_ ?_ | exact WkL.nil))
              · intro i s h; exact h.elim
              · rintro s ⟨res_11, rfl, hb⟩
                try dsimp only at hh
                obtain hR := Option.some.inj hh
                subst hR
                (repeat (with_reducible first | refine then_n ?_ | refine then_r ?_ | refine then_e ?_ | refine block_n ?_ | refine block_r ?_ | refine exit_here ?_ | refine exit_on rfl ?_ | refine scope_n ?_ | refine scope_r ?_ | refine scope_e ?_ | refine cut_awp ?_))
                exact hb
    · intro a_1 b_2 R hh
      rw [diptychref1_SameAll_k] at hh
      refine start_diptychref1_SameAll rfl ?_
      refine awp_first fun K kk hK => ?_
      simp only [go_sem]
      refine hK _ _ fun nx => ?_; clear hK K; try clear kk
      refine awp_seq ?_
      refine awp_first fun K kk hK => ?_
      simp only [go_sem]
      refine hK _ _ fun nx => ?_; clear hK K; try clear kk
      by_cases h1 : ((a_1.length : Int) != (b_2.length : Int)) = true
      · rw [if_pos h1] at hh
        refine awp_true (by first | exact congrArg PV.bool h1 | rfl) ?_
        refine awp_first fun K kk hK => ?_
        simp only [go_sem]
        refine hK _ _ fun nx => ?_; clear hK K; try clear kk
        refine awp_ret ?_; (repeat (with_reducible first | refine then_n ?_ | refine then_r ?_ | refine then_e ?_ | refine block_n ?_ | refine block_r ?_ | refine exit_here ?_ | refine exit_on rfl ?_ | refine scope_n ?_ | refine scope_r ?_ | refine scope_e ?_ | refine cut_awp ?_))
        obtain hR := Option.some.inj hh
        subst hR
        refine ret_pure2 ?_ (by rfl)
        simp only [go_sem, rvsRes, rvRes, cellRes, tupOf, pur2, List.map_cons, List.map_append, List.head?_cons]
        (repeat (first | exact Wk.refl _ | exact WkL.refl _ | exact Wk.nil _ | refine Wk.agg _ _ ?_ | refine Wk.tup _ _ ?_ | refine WkL.cons _ _ _ _ ?_ ?_ | exact WkL.nil))
      · rw [if_neg h1] at hh
        replace h1 := Bool.eq_false_iff.mpr h1
        refine awp_false (by first | exact congrArg PV.bool h1 | rfl) ?_
        refine awp_skip ?_; (repeat (with_reducible first | refine then_n ?_ | refine then_r ?_ | refine then_e ?_ | refine block_n ?_ | refine block_r ?_ | refine exit_here ?_ | refine exit_on rfl ?_ | refine scope_n ?_ | refine scope_r ?_ | refine scope_e ?_ | refine cut_awp ?_))
        refine awp_seq ?_
        refine awp_first fun K kk hK => ?_
        simp only [go_sem]
        refine hK _ _ fun nx => ?_; clear hK K; try clear kk
        obtain ⟨e0, f0, hh⟩ := bind_ex hh
        obtain ⟨hlen0, f0⟩ := chk_some f0
        refine awp_fragE (CutTo (fun s => .inr () = e0 ∧ ∃ (i_14 : Int) (v_15 : Bool) (nx : Nat), s = ⟨[(0, .list 5 (a_1.map api_Node.pv)), (1, .list 5 (b_2.map api_Node.pv)), (5, .int .i64 i_14), (14, .bool v_15)], [], nx⟩))
          (fun i s => False)
          (fun s => ∃ res_13, .inl res_13 = e0 ∧ bodyR Tryd.prog [.tmp 4] (.bool res_13) [] .ret s) ?_ ?_ ?_ ?_
        · refine awp_block ?_
          refine awp_loopJ fun I hI => ?_
          have key : ∀ (suf pre : List api_Node) (i_6 : Int), a_1 = pre ++ suf → i_6 = (pre.length : Int) → diptychref1_SameAll_l0 b_2 (diptychref1_Same_k kr) suf i_6 = some e0 → ∀ (nx : Nat), I ⟨[(0, .list 5 (a_1.map api_Node.pv)), (1, .list 5 (b_2.map api_Node.pv)), (5, .int .i64 i_6)], [], nx⟩ := by
            intro suf
            induction suf with
            | nil =>
              intro pre i_6 hsplit hidx hh nx
              rw [diptychref1_SameAll_l0] at hh
              refine hI _ ?_
              have h12 := walk_nil hsplit hidx
              refine awp_seq ?_
              refine awp_first fun K kk hK => ?_
              simp only [go_sem]
              refine hK _ _ fun nx => ?_; clear hK K; try clear kk
              refine awp_false (by first | exact congrArg PV.bool h12 | rfl) ?_
              refine awp_exit ?_; (repeat (with_reducible first | refine then_n ?_ | refine then_r ?_ | refine then_e ?_ | refine block_n ?_ | refine block_r ?_ | refine exit_here ?_ | refine exit_on rfl ?_ | refine scope_n ?_ | refine scope_r ?_ | refine scope_e ?_ | refine cut_awp ?_))
              refine fragN ?_
              refine cut_id ?_
              refine ⟨(Option.some.inj hh), ?_⟩
              first | exact ⟨_, _, _, rfl⟩ | (simp only [diptychlaw1_Cell.pv_eq, api_Attr.pv_eq, api_Node.pv_eq, pvL, List.map_cons, List.map_nil, List.map_append, rune1]; exact ⟨_, _, _, rfl⟩)
            | cons y_10 suf ih =>
              intro pre i_6 hsplit hidx hh nx
              rw [diptychref1_SameAll_l0] at hh
              refine hI _ ?_
              obtain ⟨hl0a, hl0b, hl0d, hl0w, h12⟩ := walk_cons (f := api_Node.pv) hsplit hidx hlen0
              refine awp_seq ?_
              refine awp_first fun K kk hK => ?_
              simp only [go_sem]
              refine hK _ _ fun nx => ?_; clear hK K; try clear kk
              refine awp_true (by first | exact congrArg PV.bool h12 | rfl) ?_
              refine awp_skip ?_; (repeat (with_reducible first | refine then_n ?_ | refine then_r ?_ | refine then_e ?_ | refine block_n ?_ | refine block_r ?_ | refine exit_here ?_ | refine exit_on rfl ?_ | refine scope_n ?_ | refine scope_r ?_ | refine scope_e ?_ | refine cut_awp ?_))
              refine awp_seq ?_
              refine awp_block ?_
              obtain ⟨x_11, h13, hh⟩ := bind_ex hh
              obtain ⟨h13a, h13b, h13c⟩ := rd_some h13
              have h13d := rd_get (f := api_Node.pv) h13c
              have h13f := rd_more (f := api_Node.pv) h13c
              try simp only [Int.toNat_natCast, Int.reduceToNat] at h13d h13f
              obtain ⟨same_12, h14, hh⟩ := bind_ex hh
              refine awp_first fun K kk hK => ?_
              simp only [go_sem, h13a, h13b, h13d, h13f.1, h13f.2, hl0a, hl0b, hl0d, hl0w]
              (repeat (refine And.intro ?_ ?_; focus (first | assumption | (try simp only [List.length_append, List.length_cons, List.length_nil] at *; omega))))
              refine step_call2 (ih_diptychref1_Same _ _ _ h14) (by try simp only [go_sem, h13a, h13b, h13d, h13f.1, h13f.2, hl0a, hl0b, hl0d, hl0w]; (repeat (first | exact WkL.refl _ | exact Wk.refl _ | exact Wk.nil _ | refine WkL.cons _ _ _ _ ?_ ?_ | exact WkL.nil | refine Wk.agg _ _ ?_ | refine Wk.tup _ _ ?_))) (by rfl) (by rfl) ?_
              simp only [go_sem, h13a, h13b, h13d, h13f.1, h13f.2, hl0a, hl0b, hl0d, hl0w]
              (repeat (refine And.intro ?_ ?_; focus (first | assumption | (try simp only [List.length_append, List.length_cons, List.length_nil] at *; omega))))
              refine hK _ _ fun nx => ?_; clear hK K; try clear kk
              by_cases h15 : (!same_12) = true
              · rw [if_pos h15] at hh
                refine awp_true (by first | exact congrArg PV.bool h15 | rfl) ?_
                refine awp_first fun K kk hK => ?_
                simp only [go_sem, hl0a, hl0b, hl0d, hl0w]
                refine hK _ _ fun nx => ?_; clear hK K; try clear kk
                refine awp_ret ?_; (repeat (with_reducible first | refine then_n ?_ | refine then_r ?_ | refine then_e ?_ | refine block_n ?_ | refine block_r ?_ | refine exit_here ?_ | refine exit_on rfl ?_ | refine scope_n ?_ | refine scope_r ?_ | refine scope_e ?_ | refine cut_awp ?_))
                refine fragR ⟨_, (Option.some.inj hh), ?_⟩
                refine ret_pure2 ?_ (by rfl)
                simp only [go_sem, rvsRes, rvRes, cellRes, tupOf, pur2, List.map_cons, List.map_append, List.head?_cons]
                (repeat (first | exact Wk.refl _ | exact WkL.refl _ | exact Wk.nil _ | refine Wk.agg _ _ ?_ | refine Wk.tup _ _ ?_ | refine WkL.cons _ _ _ _ ?_ ?_ | exact WkL.nil))
              · rw [if_neg h15] at hh
                replace h15 := Bool.eq_false_iff.mpr h15
                refine awp_false (by first | exact congrArg PV.bool h15 | rfl) ?_
                refine awp_skip ?_; (repeat (with_reducible first | refine then_n ?_ | refine then_r ?_ | refine then_e ?_ | refine block_n ?_ | refine block_r ?_ | refine exit_here ?_ | refine exit_on rfl ?_ | refine scope_n ?_ | refine scope_r ?_ | refine scope_e ?_ | refine cut_awp ?_))
                refine awp_region fun K kk hK => ?_
                simp only [go_sem, hl0a, hl0b, hl0d, hl0w]
                refine hK _ _ fun nx => ?_; clear hK K; try clear kk
                (repeat (with_reducible first | refine then_n ?_ | refine then_r ?_ | refine then_e ?_ | refine block_n ?_ | refine block_r ?_ | refine exit_here ?_ | refine exit_on rfl ?_ | refine scope_n ?_ | refine scope_r ?_ | refine scope_e ?_ | refine cut_awp ?_))
                have ih' := ih (pre ++ [y_10]) (i_6 + 1) (by rw [hsplit]; simp) (by simp [hidx]) hh nx
                refine cut_id ?_
                first | exact ih' | (simp only [diptychlaw1_Cell.pv_eq, api_Attr.pv_eq, api_Node.pv_eq, pvL, List.map_cons, List.map_nil, List.map_append, rune1] at ih' ⊢; exact ih')
          exact key a_1 [] _ rfl rfl f0 _
        · rintro s ⟨t, hless, rfl, i_14, v_15, nx, rfl⟩
          try dsimp only at hh
          (repeat (with_reducible first | refine then_n ?_ | refine then_r ?_ | refine then_e ?_ | refine block_n ?_ | refine block_r ?_ | refine exit_here ?_ | refine exit_on rfl ?_ | refine scope_n ?_ | refine scope_r ?_ | refine scope_e ?_))
          first | (refine cut_less hless ?_; try refine cut_awp ?_) | refine frag_less hless ?_
          refine awp_first fun K kk hK => ?_
          simp only [go_sem]
          refine hK _ _ fun nx => ?_; clear hK K; try clear kk
          refine awp_ret ?_; (repeat (with_reducible first | refine then_n ?_ | refine then_r ?_ | refine then_e ?_ | refine block_n ?_ | refine block_r ?_ | refine exit_here ?_ | refine exit_on rfl ?_ | refine scope_n ?_ | refine scope_r ?_ | refine scope_e ?_ | refine cut_awp ?_))
          obtain hR := Option.some.inj hh
          subst hR
          refine ret_pure2 ?_ (by rfl)
          simp only [go_sem, rvsRes, rvRes, cellRes, tupOf, pur2, List.map_cons, List.map_append, List.head?_cons]
          (repeat (first | exact Wk.refl _ | exact WkL.refl _ | exact Wk.nil _ | refine Wk.agg _ _ ?_ | refine Wk.tup _ _ ?_ | refine WkL.cons _ _ _ _ ?_ ?_ | exact WkL.nil))
        · intro i s h; exact h.elim
        · rintro s ⟨res_13, rfl, hb⟩
          try dsimp only at hh
          obtain hR := Option.some.inj hh
          subst hR
          (repeat (with_reducible first | refine then_n ?_ | refine then_r ?_ | refine then_e ?_ | refine block_n ?_ | refine block_r ?_ | refine exit_here ?_ | refine exit_on rfl ?_ | refine scope_n ?_ | refine scope_r ?_ | refine scope_e ?_ | refine cut_awp ?_))
          exact hb
theorem diptychref1_Same_ok (a_1 : api_Node) (b_2 : api_Node) (R : Bool) (hh : diptychref1_Same a_1 b_2 = some R) : PC Tryd.prog 65 [.agg [.str a_1.Kind, .str a_1.Text, .list 1 (a_1.Marks.map PV.str), .list 2 (a_1.Attrs.map api_Attr.pv), .list 5 (a_1.Kids.map api_Node.pv)], .agg [.str b_2.Kind, .str b_2.Text, .list 1 (b_2.Marks.map PV.str), .list 2 (b_2.Attrs.map api_Attr.pv), .list 5 (b_2.Kids.map api_Node.pv)]] (.bool R) := by
  rw [diptychref1_Same] at hh
  obtain ⟨kr, hh⟩ := lim_some hh
  exact (diptychref1_Same_grp kr).1 _ _ _ hh
theorem diptychref1_SameAll_ok (a_1 : (List api_Node)) (b_2 : (List api_Node)) (R : Bool) (hh : diptychref1_SameAll a_1 b_2 = some R) : PC Tryd.prog 37 [.list 5 (a_1.map api_Node.pv), .list 5 (b_2.map api_Node.pv)] (.bool R) := by
  rw [diptychref1_SameAll] at hh
  obtain ⟨kr, hh⟩ := lim_some hh
  exact (diptychref1_Same_grp kr).2 _ _ _ hh
theorem diptychlaw1_NodeTurns_ok (l_1 : (List diptychlaw1_Cell)) (at_2 : Int) (R : Bool) (hh : diptychlaw1_NodeTurns l_1 at_2 = some R) : PC Tryd.prog 8 [.list 3 (l_1.map diptychlaw1_Cell.pv), .int .i64 at_2] (.bool R) := by
  rw [diptychlaw1_NodeTurns] at hh
  refine start_diptychlaw1_NodeTurns rfl ?_
  refine awp_first fun K kk hK => ?_
  simp only [go_sem]
  refine hK _ _ fun nx => ?_; clear hK K; try clear kk
  obtain ⟨shown_3, h1, hh⟩ := bind_ex hh
  refine awp_first fun K kk hK => ?_
  simp only [go_sem]
  refine step_call2 (diptychlaw1_shown_ok _ h1) (by try simp only [go_sem]; (repeat (first | exact WkL.refl _ | exact Wk.refl _ | exact Wk.nil _ | refine WkL.cons _ _ _ _ ?_ ?_ | exact WkL.nil | refine Wk.agg _ _ ?_ | refine Wk.tup _ _ ?_))) (by rfl) (by rfl) ?_
  simp only [go_sem]
  refine hK _ _ fun nx => ?_; clear hK K; try clear kk
  refine awp_seq ?_
  refine awp_first fun K kk hK => ?_
  simp only [go_sem]
  refine hK _ _ fun nx => ?_; clear hK K; try clear kk
  by_cases h2 : (!shown_3) = true
  · rw [if_pos h2] at hh
    refine awp_true (by first | exact congrArg PV.bool h2 | rfl) ?_
    refine awp_first fun K kk hK => ?_
    simp only [go_sem]
    refine hK _ _ fun nx => ?_; clear hK K; try clear kk
    refine awp_ret ?_; (repeat (with_reducible first | refine then_n ?_ | refine then_r ?_ | refine then_e ?_ | refine block_n ?_ | refine block_r ?_ | refine exit_here ?_ | refine exit_on rfl ?_ | refine scope_n ?_ | refine scope_r ?_ | refine scope_e ?_ | refine cut_awp ?_))
    obtain hR := Option.some.inj hh
    subst hR
    refine ret_pure2 ?_ (by rfl)
    simp only [go_sem, rvsRes, rvRes, cellRes, tupOf, pur2, List.map_cons, List.map_append, List.head?_cons]
    (repeat (first | exact Wk.refl _ | exact WkL.refl _ | exact Wk.nil _ | refine Wk.agg _ _ ?_ | refine Wk.tup _ _ ?_ | refine WkL.cons _ _ _ _ ?_ ?_ | exact WkL.nil))
  · rw [if_neg h2] at hh
    replace h2 := Bool.eq_false_iff.mpr h2
    refine awp_false (by first | exact congrArg PV.bool h2 | rfl) ?_
    refine awp_skip ?_; (repeat (with_reducible first | refine then_n ?_ | refine then_r ?_ | refine then_e ?_ | refine block_n ?_ | refine block_r ?_ | refine exit_here ?_ | refine exit_on rfl ?_ | refine scope_n ?_ | refine scope_r ?_ | refine scope_e ?_ | refine cut_awp ?_))
    obtain ⟨made_4, h3, hh⟩ := bind_ex hh
    refine awp_first fun K kk hK => ?_
    simp only [go_sem]
    refine step_call2 (diptychlaw1_made_ok _ _ h3) (by try simp only [go_sem]; (repeat (first | exact WkL.refl _ | exact Wk.refl _ | exact Wk.nil _ | refine WkL.cons _ _ _ _ ?_ ?_ | exact WkL.nil | refine Wk.agg _ _ ?_ | refine Wk.tup _ _ ?_))) (by rfl) (by rfl) ?_
    simp only [go_sem]
    refine hK _ _ fun nx => ?_; clear hK K; try clear kk
    refine awp_first fun K kk hK => ?_
    simp only [go_sem]
    refine hK _ _ fun nx => ?_; clear hK K; try clear kk
    refine awp_seq ?_
    refine awp_first fun K kk hK => ?_
    simp only [go_sem]
    refine hK _ _ fun nx => ?_; clear hK K; try clear kk
    obtain ⟨e0, f0, hh⟩ := bind_ex hh
    obtain ⟨hlen0, f0⟩ := chk_some f0
    refine awp_fragE (CutTo (fun s => ∃ cut_51, cut_51 = e0 ∧ ∃ (i_49 : Int) (v_50 : Bool) (nx : Nat) (g7 : Nat), s = ⟨[(1, .int .i64 at_2), (6, .list 5 (made_4.map api_Node.pv)), (7, .row 7 g7 cut_51.length), (8, .int .i64 i_49), (21, .bool v_50)], [(7, g7, .row false 5 (cut_51.map api_Node.pv))], nx⟩))
      (fun i s => False)
      (fun s => False) ?_ ?_ ?_ ?_
    · refine awp_block ?_
      refine awp_loopJ fun I hI => ?_
      have key : ∀ (suf pre : List api_Node) (i_19 : Int) (cut_20 : (List api_Node)), made_4 = pre ++ suf → i_19 = (pre.length : Int) → diptychlaw1_NodeTurns_l0 suf i_19 cut_20 = some e0 → ∀ (nx : Nat) (g7 : Nat), I ⟨[(1, .int .i64 at_2), (6, .list 5 (made_4.map api_Node.pv)), (7, .row 7 g7 cut_20.length), (8, .int .i64 i_19)], [(7, g7, .row false 5 (cut_20.map api_Node.pv))], nx⟩ := by
        intro suf
        induction suf with
        | nil =>
          intro pre i_19 cut_20 hsplit hidx hh nx g7
          rw [diptychlaw1_NodeTurns_l0] at hh
          refine hI _ ?_
          have h30 := walk_nil hsplit hidx
          refine awp_seq ?_
          refine awp_first fun K kk hK => ?_
          simp only [go_sem]
          refine hK _ _ fun nx => ?_; clear hK K; try clear kk
          refine awp_false (by first | exact congrArg PV.bool h30 | rfl) ?_
          refine awp_exit ?_; (repeat (with_reducible first | refine then_n ?_ | refine then_r ?_ | refine then_e ?_ | refine block_n ?_ | refine block_r ?_ | refine exit_here ?_ | refine exit_on rfl ?_ | refine scope_n ?_ | refine scope_r ?_ | refine scope_e ?_ | refine cut_awp ?_))
          refine fragN ?_
          refine cut_id ?_
          refine ⟨_, (Option.some.inj hh), ?_⟩
          first | exact ⟨_, _, _, _, rfl⟩ | (simp only [diptychlaw1_Cell.pv_eq, api_Attr.pv_eq, api_Node.pv_eq, pvL, List.map_cons, List.map_nil, List.map_append, rune1]; exact ⟨_, _, _, _, rfl⟩)
        | cons y_35 suf ih =>
          intro pre i_19 cut_20 hsplit hidx hh nx g7
          rw [diptychlaw1_NodeTurns_l0] at hh
          refine hI _ ?_
          obtain ⟨hl0a, hl0b, hl0d, hl0w, h30⟩ := walk_cons (f := api_Node.pv) hsplit hidx hlen0
          refine awp_seq ?_
          refine awp_first fun K kk hK => ?_
          simp only [go_sem]
          refine hK _ _ fun nx => ?_; clear hK K; try clear kk
          refine awp_true (by first | exact congrArg PV.bool h30 | rfl) ?_
          refine awp_skip ?_; (repeat (with_reducible first | refine then_n ?_ | refine then_r ?_ | refine then_e ?_ | refine block_n ?_ | refine block_r ?_ | refine exit_here ?_ | refine exit_on rfl ?_ | refine scope_n ?_ | refine scope_r ?_ | refine scope_e ?_ | refine cut_awp ?_))
          refine awp_seq ?_
          refine awp_block ?_
          refine awp_seq ?_
          refine awp_first fun K kk hK => ?_
          simp only [go_sem, hl0a, hl0b, hl0d, hl0w]
          refine hK _ _ fun nx => ?_; clear hK K; try clear kk
          by_cases h31 : (!(y_35.Kind == ([116, 101, 120, 116] : Str))) = true
          · rw [if_pos h31] at hh
            refine awp_true (by first | exact congrArg PV.bool h31 | rfl) ?_
            obtain ⟨l_36, h32, hh⟩ := bind_ex hh
            obtain ⟨h32a, h32c⟩ := app_some h32
            have h32d := app_map (f := api_Node.pv) h32c
            have h32e := app_len h32c
            try simp only [List.length_cons, List.length_nil, Nat.zero_add, Nat.reduceAdd] at h32a h32e
            try simp only [h32e] at h32a
            try simp only [List.map_cons, List.map_nil, List.nil_append, List.append_nil, List.cons_append, List.singleton_append, rune1, diptychlaw1_Cell.pv_eq, api_Attr.pv_eq, api_Node.pv_eq, pvL] at h32d
            refine awp_first fun K kk hK => ?_
            simp only [go_sem, h32a, h32d, h32e, hl0a, hl0b, hl0d, hl0w]
            (repeat (refine And.intro ?_ ?_; focus (first | assumption | (try simp only [List.length_append, List.length_cons, List.length_nil] at *; omega))))
            refine hK _ _ fun nx => ?_; clear hK K; try clear kk
            refine awp_exit ?_; (repeat (with_reducible first | refine then_n ?_ | refine then_r ?_ | refine then_e ?_ | refine block_n ?_ | refine block_r ?_ | refine exit_here ?_ | refine exit_on rfl ?_ | refine scope_n ?_ | refine scope_r ?_ | refine scope_e ?_ | refine cut_awp ?_))
            refine awp_region fun K kk hK => ?_
            simp only [go_sem, hl0a, hl0b, hl0d, hl0w]
            refine hK _ _ fun nx => ?_; clear hK K; try clear kk
            (repeat (with_reducible first | refine then_n ?_ | refine then_r ?_ | refine then_e ?_ | refine block_n ?_ | refine block_r ?_ | refine exit_here ?_ | refine exit_on rfl ?_ | refine scope_n ?_ | refine scope_r ?_ | refine scope_e ?_ | refine cut_awp ?_))
            have ih' := ih (pre ++ [y_35]) (i_19 + 1) _ (by rw [hsplit]; simp) (by simp [hidx]) hh nx
            refine cut_id ?_
            first | exact ih' _ | (simp only [diptychlaw1_Cell.pv_eq, api_Attr.pv_eq, api_Node.pv_eq, pvL, List.map_cons, List.map_nil, List.map_append, rune1, h32e] at ih' ⊢; exact ih' _)
          · rw [if_neg h31] at hh
            replace h31 := Bool.eq_false_iff.mpr h31
            refine awp_false (by first | exact congrArg PV.bool h31 | rfl) ?_
            refine awp_skip ?_; (repeat (with_reducible first | refine then_n ?_ | refine then_r ?_ | refine then_e ?_ | refine block_n ?_ | refine block_r ?_ | refine exit_here ?_ | refine exit_on rfl ?_ | refine scope_n ?_ | refine scope_r ?_ | refine scope_e ?_ | refine cut_awp ?_))
            refine awp_first fun K kk hK => ?_
            simp only [go_sem, hl0a, hl0b, hl0d, hl0w]
            refine hK _ _ fun nx => ?_; clear hK K; try clear kk
            refine awp_first fun K kk hK => ?_
            simp only [go_sem, hl0a, hl0b, hl0d, hl0w]
            refine hK _ _ fun nx => ?_; clear hK K; try clear kk
            obtain ⟨e3, f3, hh⟩ := bind_ex hh
            obtain ⟨hlen3, f3⟩ := chk_some f3
            refine awp_fragE (CutTo (fun s => ∃ cut_48, cut_48 = e3 ∧ ∃ (j_46 : Int) (v_47 : Bool) (nx : Nat) (g7 : Nat), s = ⟨[(1, .int .i64 at_2), (6, .list 5 (made_4.map api_Node.pv)), (7, .row 7 g7 cut_48.length), (8, .int .i64 i_19), (9, .list 1 ((runes y_35.Text).map (PV.int .i32))), (10, .int .i64 j_46), (46, .bool v_47)], [(7, g7, .row false 5 (cut_48.map api_Node.pv))], nx⟩))
              (fun i s => False)
              (fun s => False) ?_ ?_ ?_ ?_
            · refine awp_block ?_
              refine awp_loopJ fun I hI => ?_
              have key : ∀ (suf pre : List Int) (j_39 : Int) (cut_40 : (List api_Node)), (runes y_35.Text) = pre ++ suf → j_39 = (pre.length : Int) → diptychlaw1_NodeTurns_l3 y_35 suf j_39 cut_40 = some e3 → ∀ (nx : Nat) (g7 : Nat), I ⟨[(1, .int .i64 at_2), (6, .list 5 (made_4.map api_Node.pv)), (7, .row 7 g7 cut_40.length), (8, .int .i64 i_19), (9, .list 1 ((runes y_35.Text).map (PV.int .i32))), (10, .int .i64 j_39)], [(7, g7, .row false 5 (cut_40.map api_Node.pv))], nx⟩ := by
                intro suf
                induction suf with
                | nil =>
                  intro pre j_39 cut_40 hsplit hidx hh nx g7
                  rw [diptychlaw1_NodeTurns_l3] at hh
                  refine hI _ ?_
                  have h39 := walk_nil hsplit hidx
                  refine awp_seq ?_
                  refine awp_first fun K kk hK => ?_
                  simp only [go_sem, hl0a, hl0b, hl0d, hl0w]
                  refine hK _ _ fun nx => ?_; clear hK K; try clear kk
                  refine awp_false (by first | exact congrArg PV.bool h39 | rfl) ?_
                  refine awp_exit ?_; (repeat (with_reducible first | refine then_n ?_ | refine then_r ?_ | refine then_e ?_ | refine block_n ?_ | refine block_r ?_ | refine exit_here ?_ | refine exit_on rfl ?_ | refine scope_n ?_ | refine scope_r ?_ | refine scope_e ?_ | refine cut_awp ?_))
                  refine fragN ?_
                  refine cut_id ?_
                  refine ⟨_, (Option.some.inj hh), ?_⟩
                  first | exact ⟨_, _, _, _, rfl⟩ | (simp only [diptychlaw1_Cell.pv_eq, api_Attr.pv_eq, api_Node.pv_eq, pvL, List.map_cons, List.map_nil, List.map_append, rune1]; exact ⟨_, _, _, _, rfl⟩)
                | cons y_43 suf ih =>
                  intro pre j_39 cut_40 hsplit hidx hh nx g7
                  rw [diptychlaw1_NodeTurns_l3] at hh
                  refine hI _ ?_
                  obtain ⟨hl3a, hl3b, hl3d, hl3w, h39⟩ := walk_cons (f := (PV.int .i32)) hsplit hidx hlen3
                  refine awp_seq ?_
                  refine awp_first fun K kk hK => ?_
                  simp only [go_sem, hl0a, hl0b, hl0d, hl0w]
                  refine hK _ _ fun nx => ?_; clear hK K; try clear kk
                  refine awp_true (by first | exact congrArg PV.bool h39 | rfl) ?_
                  refine awp_skip ?_; (repeat (with_reducible first | refine then_n ?_ | refine then_r ?_ | refine then_e ?_ | refine block_n ?_ | refine block_r ?_ | refine exit_here ?_ | refine exit_on rfl ?_ | refine scope_n ?_ | refine scope_r ?_ | refine scope_e ?_ | refine cut_awp ?_))
                  refine awp_seq ?_
                  refine awp_block ?_
                  obtain ⟨s_44, h40, hh⟩ := bind_ex hh
                  obtain ⟨h40a, h40c⟩ := sl_some h40
                  have h40g := sl_le h40a
                  have h40d := sl_map (f := (PV.int .i32)) h40c
                  try simp only [Int.toNat_natCast, Int.reduceToNat, List.map_cons, List.map_nil, diptychlaw1_Cell.pv_eq, api_Attr.pv_eq, api_Node.pv_eq, pvL] at h40d
                  obtain ⟨l_45, h41, hh⟩ := bind_ex hh
                  obtain ⟨h41a, h41c⟩ := app_some h41
                  have h41d := app_map (f := api_Node.pv) h41c
                  have h41e := app_len h41c
                  try simp only [List.length_cons, List.length_nil, Nat.zero_add, Nat.reduceAdd] at h41a h41e
                  try simp only [h41e] at h41a
                  try simp only [List.map_cons, List.map_nil, List.nil_append, List.append_nil, List.cons_append, List.singleton_append, rune1, diptychlaw1_Cell.pv_eq, api_Attr.pv_eq, api_Node.pv_eq, pvL] at h41d
                  refine awp_region fun K kk hK => ?_
                  simp only [go_sem, h40a.1, h40a.2.1, h40a.2.2, h40d, h40g, h41a, h41d, h41e, hl0a, hl0b, hl0d, hl0w, hl3a, hl3b, hl3d, hl3w]
                  (repeat (refine And.intro ?_ ?_; focus (first | assumption | (try simp only [List.length_append, List.length_cons, List.length_nil] at *; omega))))
                  refine hK _ _ fun nx => ?_; clear hK K; try clear kk
                  (repeat (with_reducible first | refine then_n ?_ | refine then_r ?_ | refine then_e ?_ | refine block_n ?_ | refine block_r ?_ | refine exit_here ?_ | refine exit_on rfl ?_ | refine scope_n ?_ | refine scope_r ?_ | refine scope_e ?_ | refine cut_awp ?_))
                  refine awp_region fun K kk hK => ?_
                  simp only [go_sem, hl0a, hl0b, hl0d, hl0w, hl3a, hl3b, hl3d, hl3w]
                  refine hK _ _ fun nx => ?_; clear hK K; try clear kk
                  (repeat (with_reducible first | refine then_n ?_ | refine then_r ?_ | refine then_e ?_ | refine block_n ?_ | refine block_r ?_ | refine exit_here ?_ | refine exit_on rfl ?_ | refine scope_n ?_ | refine scope_r ?_ | refine scope_e ?_ | refine cut_awp ?_))
                  have ih' := ih (pre ++ [y_43]) (j_39 + 1) _ (by rw [hsplit]; simp) (by simp [hidx]) hh nx
                  refine cut_id ?_
                  first | exact ih' _ | (simp only [diptychlaw1_Cell.pv_eq, api_Attr.pv_eq, api_Node.pv_eq, pvL, List.map_cons, List.map_nil, List.map_append, rune1, h41e] at ih' ⊢; exact ih' _)
              exact key (runes y_35.Text) [] _ _ rfl rfl f3 _ _
            · rintro s ⟨t, hless, cut_48, rfl, j_46, v_47, nx, g7, rfl⟩
              try dsimp only at hh
              (repeat (with_reducible first | refine then_n ?_ | refine then_r ?_ | refine then_e ?_ | refine block_n ?_ | refine block_r ?_ | refine exit_here ?_ | refine exit_on rfl ?_ | refine scope_n ?_ | refine scope_r ?_ | refine scope_e ?_))
              first | (refine cut_less hless ?_; try refine cut_awp ?_) | refine frag_less hless ?_
              refine awp_region fun K kk hK => ?_
              simp only [go_sem, hl0a, hl0b, hl0d, hl0w]
              refine hK _ _ fun nx => ?_; clear hK K; try clear kk
              (repeat (with_reducible first | refine then_n ?_ | refine then_r ?_ | refine then_e ?_ | refine block_n ?_ | refine block_r ?_ | refine exit_here ?_ | refine exit_on rfl ?_ | refine scope_n ?_ | refine scope_r ?_ | refine scope_e ?_ | refine cut_awp ?_))
              have ih' := ih (pre ++ [y_35]) (i_19 + 1) _ (by rw [hsplit]; simp) (by simp [hidx]) hh nx
              refine cut_id ?_
              first | exact ih' _ | (simp only [diptychlaw1_Cell.pv_eq, api_Attr.pv_eq, api_Node.pv_eq, pvL, List.map_cons, List.map_nil, List.map_append, rune1] at ih' ⊢; exact ih' _)
            · intro i s h; exact h.elim
            · intro s h; exact h.elim
      exact key made_4 [] _ _ rfl rfl f0 _ _
    · rintro s ⟨t, hless, cut_51, rfl, i_49, v_50, nx, g7, rfl⟩
      try dsimp only at hh
      (repeat (with_reducible first | refine then_n ?_ | refine then_r ?_ | refine then_e ?_ | refine block_n ?_ | refine block_r ?_ | refine exit_here ?_ | refine exit_on rfl ?_ | refine scope_n ?_ | refine scope_r ?_ | refine scope_e ?_))
      first | (refine cut_less hless ?_; try refine cut_awp ?_) | refine frag_less hless ?_
      obtain ⟨pick_52, h42, hh⟩ := bind_ex hh
      refine awp_first fun K kk hK => ?_
      simp only [go_sem]
      refine step_call2 (diptychlaw1_pick_ok _ _ _ h42) (by try simp only [go_sem]; (repeat (first | exact WkL.refl _ | exact Wk.refl _ | exact Wk.nil _ | refine WkL.cons _ _ _ _ ?_ ?_ | exact WkL.nil | refine Wk.agg _ _ ?_ | refine Wk.tup _ _ ?_))) (by rfl) (by rfl) ?_
      simp only [go_sem]
      refine hK _ _ fun nx => ?_; clear hK K; try clear kk
      obtain ⟨s_53, h43, hh⟩ := bind_ex hh
      obtain ⟨h43a, h43c⟩ := sl_some h43
      have h43g := sl_le h43a
      have h43d := sl_map0 (f := api_Node.pv) h43c
      try simp only [Int.toNat_natCast, Int.reduceToNat, List.map_cons, List.map_nil, diptychlaw1_Cell.pv_eq, api_Attr.pv_eq, api_Node.pv_eq, pvL] at h43d
      obtain ⟨join_54, h44, hh⟩ := bind_ex hh
      obtain ⟨l_55, h45, hh⟩ := bind_ex hh
      obtain ⟨h45a, h45c⟩ := app_some h45
      have h45d := app_map (f := api_Node.pv) h45c
      have h45e := app_len h45c
      try simp only [List.length_cons, List.length_nil, Nat.zero_add, Nat.reduceAdd] at h45a h45e
      try simp only [h45e] at h45a
      try simp only [List.map_cons, List.map_nil, List.nil_append, List.append_nil, List.cons_append, List.singleton_append, rune1, diptychlaw1_Cell.pv_eq, api_Attr.pv_eq, api_Node.pv_eq, pvL] at h45d
      obtain ⟨s_56, h46, hh⟩ := bind_ex hh
      obtain ⟨h46a, h46c⟩ := sl_some h46
      have h46g := sl_le h46a
      have h46d := sl_map1 (f := api_Node.pv) h46c
      try simp only [Int.toNat_natCast, Int.reduceToNat, List.map_cons, List.map_nil, diptychlaw1_Cell.pv_eq, api_Attr.pv_eq, api_Node.pv_eq, pvL] at h46d
      obtain ⟨join_57, h47, hh⟩ := bind_ex hh
      obtain ⟨l_58, h48, hh⟩ := bind_ex hh
      obtain ⟨h48a, h48c⟩ := app_some h48
      have h48d := app_map (f := api_Node.pv) h48c
      have h48e := app_len h48c
      try simp only [List.length_cons, List.length_nil, Nat.zero_add, Nat.reduceAdd] at h48a h48e
      try simp only [h48e] at h48a
      try simp only [List.map_cons, List.map_nil, List.nil_append, List.append_nil, List.cons_append, List.singleton_append, rune1, diptychlaw1_Cell.pv_eq, api_Attr.pv_eq, api_Node.pv_eq, pvL] at h48d
      refine first_fact (.nrm 7 [some 5]) ?_
      refine awp_first fun K kk hK => ?_
      simp only [go_sem, h43a.1, h43a.2.1, h43a.2.2, h43d, h43g, h45a, h45d, h45e, h46a.1, h46a.2.1, h46a.2.2, h46d, h46g, h48a, h48d, h48e]
      (repeat (refine And.intro ?_ ?_; focus (first | assumption | (try simp only [List.length_append, List.length_cons, List.length_nil] at *; omega))))
      refine step_call2 (node_Join_ok _ _ h44).list (by try simp only [go_sem, h43a.1, h43a.2.1, h43a.2.2, h43d, h43g, h45a, h45d, h45e, h46a.1, h46a.2.1, h46a.2.2, h46d, h46g, h48a, h48d, h48e]; (repeat (first | exact WkL.refl _ | exact Wk.refl _ | exact Wk.nil _ | refine WkL.cons _ _ _ _ ?_ ?_ | exact WkL.nil | refine Wk.agg _ _ ?_ | refine Wk.tup _ _ ?_))) (by rfl) (by rfl) ?_
      simp only [go_sem, h43a.1, h43a.2.1, h43a.2.2, h43d, h43g, h45a, h45d, h45e, h46a.1, h46a.2.1, h46a.2.2, h46d, h46g, h48a, h48d, h48e]
      (repeat (refine And.intro ?_ ?_; focus (first | assumption | (try simp only [List.length_append, List.length_cons, List.length_nil] at *; omega))))
      refine step_call2 (node_Join_ok _ _ h47).list (by try simp only [go_sem, h43a.1, h43a.2.1, h43a.2.2, h43d, h43g, h45a, h45d, h45e, h46a.1, h46a.2.1, h46a.2.2, h46d, h46g, h48a, h48d, h48e]; (repeat (first | exact WkL.refl _ | exact Wk.refl _ | exact Wk.nil _ | refine WkL.cons _ _ _ _ ?_ ?_ | exact WkL.nil | refine Wk.agg _ _ ?_ | refine Wk.tup _ _ ?_))) (by rfl) (by rfl) ?_
      simp only [go_sem, h43a.1, h43a.2.1, h43a.2.2, h43d, h43g, h45a, h45d, h45e, h46a.1, h46a.2.1, h46a.2.2, h46d, h46g, h48a, h48d, h48e]
      (repeat (refine And.intro ?_ ?_; focus (first | assumption | (try simp only [List.length_append, List.length_cons, List.length_nil] at *; omega))))
      refine hK _ _ fun nx => ?_; clear hK K; try clear kk
      obtain ⟨join_59, h49, hh⟩ := bind_ex hh
      obtain ⟨sameal_60, h50, hh⟩ := bind_ex hh
      by_cases h51 : (sameal_60) = true
      · rw [if_pos h51] at hh
        obtain ⟨join_61, h52, hh⟩ := bind_ex hh
        obtain ⟨sameal_62, h53, hh⟩ := bind_ex hh
        refine awp_first fun K kk hK => ?_
        simp only [go_sem, h51, h51]
        (repeat (refine And.intro ?_ ?_; focus (first | assumption | (try simp only [List.length_append, List.length_cons, List.length_nil] at *; omega))))
        refine step_call2 (node_Join_ok _ _ h49).list (by try simp only [go_sem, h51, h51]; (repeat (first | exact WkL.refl _ | exact Wk.refl _ | exact Wk.nil _ | refine WkL.cons _ _ _ _ ?_ ?_ | exact WkL.nil | refine Wk.agg _ _ ?_ | refine Wk.tup _ _ ?_))) (by rfl) (by rfl) ?_
        simp only [go_sem, h51, h51]
        (repeat (refine And.intro ?_ ?_; focus (first | assumption | (try simp only [List.length_append, List.length_cons, List.length_nil] at *; omega))))
        refine step_call2 (diptychref1_SameAll_ok _ _ _ h50) (by try simp only [go_sem, h51, h51]; (repeat (first | exact WkL.refl _ | exact Wk.refl _ | exact Wk.nil _ | refine WkL.cons _ _ _ _ ?_ ?_ | exact WkL.nil | refine Wk.agg _ _ ?_ | refine Wk.tup _ _ ?_))) (by rfl) (by rfl) ?_
        simp only [go_sem, h51, h51]
        (repeat (refine And.intro ?_ ?_; focus (first | assumption | (try simp only [List.length_append, List.length_cons, List.length_nil] at *; omega))))
        refine step_call2 (node_Join_ok _ _ h52).list (by try simp only [go_sem, h51, h51]; (repeat (first | exact WkL.refl _ | exact Wk.refl _ | exact Wk.nil _ | refine WkL.cons _ _ _ _ ?_ ?_ | exact WkL.nil | refine Wk.agg _ _ ?_ | refine Wk.tup _ _ ?_))) (by rfl) (by rfl) ?_
        simp only [go_sem, h51, h51]
        (repeat (refine And.intro ?_ ?_; focus (first | assumption | (try simp only [List.length_append, List.length_cons, List.length_nil] at *; omega))))
        refine step_call2 (diptychref1_SameAll_ok _ _ _ h53) (by try simp only [go_sem, h51, h51]; (repeat (first | exact WkL.refl _ | exact Wk.refl _ | exact Wk.nil _ | refine WkL.cons _ _ _ _ ?_ ?_ | exact WkL.nil | refine Wk.agg _ _ ?_ | refine Wk.tup _ _ ?_))) (by rfl) (by rfl) ?_
        simp only [go_sem, h51, h51]
        (repeat (refine And.intro ?_ ?_; focus (first | assumption | (try simp only [List.length_append, List.length_cons, List.length_nil] at *; omega))))
        refine hK _ _ fun nx => ?_; clear hK K; try clear kk
        refine awp_ret ?_; (repeat (with_reducible first | refine then_n ?_ | refine then_r ?_ | refine then_e ?_ | refine block_n ?_ | refine block_r ?_ | refine exit_here ?_ | refine exit_on rfl ?_ | refine scope_n ?_ | refine scope_r ?_ | refine scope_e ?_ | refine cut_awp ?_))
        obtain hR := Option.some.inj hh
        subst hR
        refine ret_pure2 ?_ (by rfl)
        simp only [go_sem, rvsRes, rvRes, cellRes, tupOf, pur2, List.map_cons, List.map_append, List.head?_cons]
        (repeat (first | exact Wk.refl _ | exact WkL.refl _ | exact Wk.nil _ | refine Wk.agg _ _ ?_ | refine Wk.tup _ _ ?_ | refine WkL.cons _ _ _ _ ?_ ?_ | exact WkL.nil))
      · rw [if_neg h51] at hh
        replace h51 := Bool.eq_false_iff.mpr h51
        refine awp_first fun K kk hK => ?_
        simp only [go_sem, h51, h51]
        (repeat (refine And.intro ?_ ?_; focus (first | assumption | (try simp only [List.length_append, List.length_cons, List.length_nil] at *; omega))))
        refine step_call2 (node_Join_ok _ _ h49).list (by try simp only [go_sem, h51, h51]; (repeat (first | exact WkL.refl _ | exact Wk.refl _ | exact Wk.nil _ | refine WkL.cons _ _ _ _ ?_ ?_ | exact WkL.nil | refine Wk.agg _ _ ?_ | refine Wk.tup _ _ ?_))) (by rfl) (by rfl) ?_
        simp only [go_sem, h51, h51]
        (repeat (refine And.intro ?_ ?_; focus (first | assumption | (try simp only [List.length_append, List.length_cons, List.length_nil] at *; omega))))
        refine step_call2 (diptychref1_SameAll_ok _ _ _ h50) (by try simp only [go_sem, h51, h51]; (repeat (first | exact WkL.refl _ | exact Wk.refl _ | exact Wk.nil _ | refine WkL.cons _ _ _ _ ?_ ?_ | exact WkL.nil | refine Wk.agg _ _ ?_ | refine Wk.tup _ _ ?_))) (by rfl) (by rfl) ?_
        simp only [go_sem, h51, h51]
        (repeat (refine And.intro ?_ ?_; focus (first | assumption | (try simp only [List.length_append, List.length_cons, List.length_nil] at *; omega))))
        refine hK _ _ fun nx => ?_; clear hK K; try clear kk
        refine awp_ret ?_; (repeat (with_reducible first | refine then_n ?_ | refine then_r ?_ | refine then_e ?_ | refine block_n ?_ | refine block_r ?_ | refine exit_here ?_ | refine exit_on rfl ?_ | refine scope_n ?_ | refine scope_r ?_ | refine scope_e ?_ | refine cut_awp ?_))
        obtain hR := Option.some.inj hh
        subst hR
        refine ret_pure2 ?_ (by rfl)
        simp only [go_sem, rvsRes, rvRes, cellRes, tupOf, pur2, List.map_cons, List.map_append, List.head?_cons]
        (repeat (first | exact Wk.refl _ | exact WkL.refl _ | exact Wk.nil _ | refine Wk.agg _ _ ?_ | refine Wk.tup _ _ ?_ | refine WkL.cons _ _ _ _ ?_ ?_ | exact WkL.nil))
    · intro i s h; exact h.elim
    · intro s h; exact h.elim
theorem diptychlaw1_doc_ok (l_1 : (List diptychlaw1_Cell)) (R : api_Node) (hh : diptychlaw1_doc l_1 = some R) : PC Tryd.prog 32 [.list 3 (l_1.map diptychlaw1_Cell.pv)] (.agg [.str R.Kind, .str R.Text, .list 1 (R.Marks.map PV.str), .list 2 (R.Attrs.map api_Attr.pv), .list 5 (R.Kids.map api_Node.pv)]) := by
  rw [diptychlaw1_doc] at hh
  refine start_diptychlaw1_doc rfl ?_
  refine awp_first fun K kk hK => ?_
  simp only [go_sem]
  refine hK _ _ fun nx => ?_; clear hK K; try clear kk
  obtain ⟨made_2, h1, hh⟩ := bind_ex hh
  refine awp_first fun K kk hK => ?_
  simp only [go_sem]
  refine step_call2 (diptychlaw1_made_ok _ _ h1) (by try simp only [go_sem]; (repeat (first | exact WkL.refl _ | exact Wk.refl _ | exact Wk.nil _ | refine WkL.cons _ _ _ _ ?_ ?_ | exact WkL.nil | refine Wk.agg _ _ ?_ | refine Wk.tup _ _ ?_))) (by rfl) (by rfl) ?_
  simp only [go_sem]
  refine hK _ _ fun nx => ?_; clear hK K; try clear kk
  refine awp_ret ?_; (repeat (with_reducible first | refine then_n ?_ | refine then_r ?_ | refine then_e ?_ | refine block_n ?_ | refine block_r ?_ | refine exit_here ?_ | refine exit_on rfl ?_ | refine scope_n ?_ | refine scope_r ?_ | refine scope_e ?_ | refine cut_awp ?_))
  obtain hR := Option.some.inj hh
  subst hR
  refine ret_pure2 ?_ (by rfl)
  simp only [go_sem, rvsRes, rvRes, cellRes, tupOf, pur2, List.map_cons, List.map_append, List.head?_cons]
  (repeat (first | exact Wk.refl _ | exact WkL.refl _ | exact Wk.nil _ | refine Wk.agg _ _ ?_ | refine Wk.tup _ _ ?_ | refine WkL.cons _ _ _ _ ?_ ?_ | exact WkL.nil))
theorem diptychlaw1_NodeWrong_ok (l_1 : (List diptychlaw1_Cell)) (what_2 : Int) (R : Bool) (hh : diptychlaw1_NodeWrong l_1 what_2 = some R) : PC Tryd.prog 7 [.list 3 (l_1.map diptychlaw1_Cell.pv), .int .i64 what_2] (.bool R) := by
  rw [diptychlaw1_NodeWrong] at hh
  refine start_diptychlaw1_NodeWrong rfl ?_
  refine awp_first fun K kk hK => ?_
  simp only [go_sem]
  refine hK _ _ fun nx => ?_; clear hK K; try clear kk
  obtain ⟨shown_3, h1, hh⟩ := bind_ex hh
  refine awp_first fun K kk hK => ?_
  simp only [go_sem]
  refine step_call2 (diptychlaw1_shown_ok _ h1) (by try simp only [go_sem]; (repeat (first | exact WkL.refl _ | exact Wk.refl _ | exact Wk.nil _ | refine WkL.cons _ _ _ _ ?_ ?_ | exact WkL.nil | refine Wk.agg _ _ ?_ | refine Wk.tup _ _ ?_))) (by rfl) (by rfl) ?_
  simp only [go_sem]
  refine hK _ _ fun nx => ?_; clear hK K; try clear kk
  refine awp_seq ?_
  refine awp_first fun K kk hK => ?_
  simp only [go_sem]
  refine hK _ _ fun nx => ?_; clear hK K; try clear kk
  by_cases h2 : (!shown_3) = true
  · rw [if_pos h2] at hh
    refine awp_true (by first | exact congrArg PV.bool h2 | rfl) ?_
    refine awp_first fun K kk hK => ?_
    simp only [go_sem]
    refine hK _ _ fun nx => ?_; clear hK K; try clear kk
    refine awp_ret ?_; (repeat (with_reducible first | refine then_n ?_ | refine then_r ?_ | refine then_e ?_ | refine block_n ?_ | refine block_r ?_ | refine exit_here ?_ | refine exit_on rfl ?_ | refine scope_n ?_ | refine scope_r ?_ | refine scope_e ?_ | refine cut_awp ?_))
    obtain hR := Option.some.inj hh
    subst hR
    refine ret_pure2 ?_ (by rfl)
    simp only [go_sem, rvsRes, rvRes, cellRes, tupOf, pur2, List.map_cons, List.map_append, List.head?_cons]
    (repeat (first | exact Wk.refl _ | exact WkL.refl _ | exact Wk.nil _ | refine Wk.agg _ _ ?_ | refine Wk.tup _ _ ?_ | refine WkL.cons _ _ _ _ ?_ ?_ | exact WkL.nil))
  · rw [if_neg h2] at hh
    replace h2 := Bool.eq_false_iff.mpr h2
    refine awp_false (by first | exact congrArg PV.bool h2 | rfl) ?_
    refine awp_skip ?_; (repeat (with_reducible first | refine then_n ?_ | refine then_r ?_ | refine then_e ?_ | refine block_n ?_ | refine block_r ?_ | refine exit_here ?_ | refine exit_on rfl ?_ | refine scope_n ?_ | refine scope_r ?_ | refine scope_e ?_ | refine cut_awp ?_))
    refine awp_first fun K kk hK => ?_
    simp only [go_sem]
    refine hK _ _ fun nx => ?_; clear hK K; try clear kk
    obtain ⟨pick_4, h3, hh⟩ := bind_ex hh
    obtain ⟨x_5, h4, hh⟩ := bind_ex hh
    obtain ⟨h4a, h4b, h4c⟩ := rd_some h4
    have h4d := rd_get (f := api_Node.pv) h4c
    have h4f := rd_more (f := api_Node.pv) h4c
    try simp only [Int.toNat_natCast, Int.reduceToNat] at h4d h4f
    simp only [List.length_cons, List.length_nil, List.map_cons, List.map_nil, Nat.zero_add, Nat.reduceAdd, reduceCtorEq, not_false_eq_true, and_true, diptychlaw1_Cell.pv_eq, api_Attr.pv_eq, api_Node.pv_eq, pvL] at h4b h4d h4f
    refine awp_first fun K kk hK => ?_
    simp only [go_sem, h4a, h4b, h4d, h4f]
    (repeat (refine And.intro ?_ ?_; focus (first | assumption | (try simp only [List.length_append, List.length_cons, List.length_nil] at *; omega))))
    refine step_call2 (diptychlaw1_pick_ok _ _ _ h3) (by try simp only [go_sem, h4a, h4b, h4d, h4f]; (repeat (first | exact WkL.refl _ | exact Wk.refl _ | exact Wk.nil _ | refine WkL.cons _ _ _ _ ?_ ?_ | exact WkL.nil | refine Wk.agg _ _ ?_ | refine Wk.tup _ _ ?_))) (by rfl) (by rfl) ?_
    simp only [go_sem, h4a, h4b, h4d, h4f]
    (repeat (refine And.intro ?_ ?_; focus (first | assumption | (try simp only [List.length_append, List.length_cons, List.length_nil] at *; omega))))
    refine hK _ _ fun nx => ?_; clear hK K; try clear kk
    obtain ⟨doc_6, h5, hh⟩ := bind_ex hh
    refine awp_first fun K kk hK => ?_
    simp only [go_sem]
    refine step_call2 (diptychlaw1_doc_ok _ _ h5) (by try simp only [go_sem]; (repeat (first | exact WkL.refl _ | exact Wk.refl _ | exact Wk.nil _ | refine WkL.cons _ _ _ _ ?_ ?_ | exact WkL.nil | refine Wk.agg _ _ ?_ | refine Wk.tup _ _ ?_))) (by rfl) (by rfl) ?_
    simp only [go_sem]
    refine hK _ _ fun nx => ?_; clear hK K; try clear kk
    obtain ⟨l_7, h6, hh⟩ := bind_ex hh
    obtain ⟨h6a, h6c⟩ := app_some h6
    have h6d := app_map (f := api_Node.pv) h6c
    have h6e := app_len h6c
    try simp only [List.length_cons, List.length_nil, Nat.zero_add, Nat.reduceAdd] at h6a h6e
    try simp only [h6e] at h6a
    try simp only [List.map_cons, List.map_nil, List.nil_append, List.append_nil, List.cons_append, List.singleton_append, rune1, diptychlaw1_Cell.pv_eq, api_Attr.pv_eq, api_Node.pv_eq, pvL] at h6d
    obtain ⟨l_8, h7, hh⟩ := bind_ex hh
    obtain ⟨h7a, h7c⟩ := app_some h7
    have h7d := app_map (f := api_Node.pv) h7c
    have h7e := app_len h7c
    try simp only [List.length_cons, List.length_nil, Nat.zero_add, Nat.reduceAdd] at h7a h7e
    try simp only [h7e] at h7a
    try simp only [List.map_cons, List.map_nil, List.nil_append, List.append_nil, List.cons_append, List.singleton_append, rune1, diptychlaw1_Cell.pv_eq, api_Attr.pv_eq, api_Node.pv_eq, pvL] at h7d
    refine awp_first fun K kk hK => ?_
    simp only [go_sem, h6a, h6d, h6e, h7a, h7d, h7e]
    (repeat (refine And.intro ?_ ?_; focus (first | assumption | (try simp only [List.length_append, List.length_cons, List.length_nil] at *; omega))))
    refine hK _ _ fun nx => ?_; clear hK K; try clear kk
    obtain ⟨check_9, h8, hh⟩ := bind_ex hh
    by_cases h9 : (check_9 == (2 : Int)) = true
    · rw [if_pos h9] at hh
      obtain ⟨check_10, h10, hh⟩ := bind_ex hh
      by_cases h11 : (check_10 == (2 : Int)) = true
      · rw [if_pos h11] at hh
        obtain ⟨right_11, h12, hh⟩ := bind_ex hh
        refine awp_first fun K kk hK => ?_
        simp only [go_sem, h9, h9, h11, h11]
        (repeat (refine And.intro ?_ ?_; focus (first | assumption | (try simp only [List.length_append, List.length_cons, List.length_nil] at *; omega))))
        refine step_call2 (node_Check_ok _ _ h8) (by try simp only [go_sem, h9, h9, h11, h11]; (repeat (first | exact WkL.refl _ | exact Wk.refl _ | exact Wk.nil _ | refine WkL.cons _ _ _ _ ?_ ?_ | exact WkL.nil | refine Wk.agg _ _ ?_ | refine Wk.tup _ _ ?_))) (by rfl) (by rfl) ?_
        simp only [go_sem, h9, h9, h11, h11]
        (repeat (refine And.intro ?_ ?_; focus (first | assumption | (try simp only [List.length_append, List.length_cons, List.length_nil] at *; omega))))
        refine step_call2 (node_Check_ok _ _ h10) (by try simp only [go_sem, h9, h9, h11, h11]; (repeat (first | exact WkL.refl _ | exact Wk.refl _ | exact Wk.nil _ | refine WkL.cons _ _ _ _ ?_ ?_ | exact WkL.nil | refine Wk.agg _ _ ?_ | refine Wk.tup _ _ ?_))) (by rfl) (by rfl) ?_
        simp only [go_sem, h9, h9, h11, h11]
        (repeat (refine And.intro ?_ ?_; focus (first | assumption | (try simp only [List.length_append, List.length_cons, List.length_nil] at *; omega))))
        refine step_call2 (node_Right_ok _ _ h12) (by try simp only [go_sem, h9, h9, h11, h11]; (repeat (first | exact WkL.refl _ | exact Wk.refl _ | exact Wk.nil _ | refine WkL.cons _ _ _ _ ?_ ?_ | exact WkL.nil | refine Wk.agg _ _ ?_ | refine Wk.tup _ _ ?_))) (by rfl) (by rfl) ?_
        simp only [go_sem, h9, h9, h11, h11]
        (repeat (refine And.intro ?_ ?_; focus (first | assumption | (try simp only [List.length_append, List.length_cons, List.length_nil] at *; omega))))
        refine hK _ _ fun nx => ?_; clear hK K; try clear kk
        refine awp_ret ?_; (repeat (with_reducible first | refine then_n ?_ | refine then_r ?_ | refine then_e ?_ | refine block_n ?_ | refine block_r ?_ | refine exit_here ?_ | refine exit_on rfl ?_ | refine scope_n ?_ | refine scope_r ?_ | refine scope_e ?_ | refine cut_awp ?_))
        obtain hR := Option.some.inj hh
        subst hR
        refine ret_pure2 ?_ (by rfl)
        simp only [go_sem, rvsRes, rvRes, cellRes, tupOf, pur2, List.map_cons, List.map_append, List.head?_cons]
        (repeat (first | exact Wk.refl _ | exact WkL.refl _ | exact Wk.nil _ | refine Wk.agg _ _ ?_ | refine Wk.tup _ _ ?_ | refine WkL.cons _ _ _ _ ?_ ?_ | exact WkL.nil))
      · rw [if_neg h11] at hh
        replace h11 := Bool.eq_false_iff.mpr h11
        refine awp_first fun K kk hK => ?_
        simp only [go_sem, h9, h9, h11, h11]
        (repeat (refine And.intro ?_ ?_; focus (first | assumption | (try simp only [List.length_append, List.length_cons, List.length_nil] at *; omega))))
        refine step_call2 (node_Check_ok _ _ h8) (by try simp only [go_sem, h9, h9, h11, h11]; (repeat (first | exact WkL.refl _ | exact Wk.refl _ | exact Wk.nil _ | refine WkL.cons _ _ _ _ ?_ ?_ | exact WkL.nil | refine Wk.agg _ _ ?_ | refine Wk.tup _ _ ?_))) (by rfl) (by rfl) ?_
        simp only [go_sem, h9, h9, h11, h11]
        (repeat (refine And.intro ?_ ?_; focus (first | assumption | (try simp only [List.length_append, List.length_cons, List.length_nil] at *; omega))))
        refine step_call2 (node_Check_ok _ _ h10) (by try simp only [go_sem, h9, h9, h11, h11]; (repeat (first | exact WkL.refl _ | exact Wk.refl _ | exact Wk.nil _ | refine WkL.cons _ _ _ _ ?_ ?_ | exact WkL.nil | refine Wk.agg _ _ ?_ | refine Wk.tup _ _ ?_))) (by rfl) (by rfl) ?_
        simp only [go_sem, h9, h9, h11, h11]
        (repeat (refine And.intro ?_ ?_; focus (first | assumption | (try simp only [List.length_append, List.length_cons, List.length_nil] at *; omega))))
        refine hK _ _ fun nx => ?_; clear hK K; try clear kk
        refine awp_ret ?_; (repeat (with_reducible first | refine then_n ?_ | refine then_r ?_ | refine then_e ?_ | refine block_n ?_ | refine block_r ?_ | refine exit_here ?_ | refine exit_on rfl ?_ | refine scope_n ?_ | refine scope_r ?_ | refine scope_e ?_ | refine cut_awp ?_))
        obtain hR := Option.some.inj hh
        subst hR
        refine ret_pure2 ?_ (by rfl)
        simp only [go_sem, rvsRes, rvRes, cellRes, tupOf, pur2, List.map_cons, List.map_append, List.head?_cons]
        (repeat (first | exact Wk.refl _ | exact WkL.refl _ | exact Wk.nil _ | refine Wk.agg _ _ ?_ | refine Wk.tup _ _ ?_ | refine WkL.cons _ _ _ _ ?_ ?_ | exact WkL.nil))
    · rw [if_neg h9] at hh
      replace h9 := Bool.eq_false_iff.mpr h9
      refine awp_first fun K kk hK => ?_
      simp only [go_sem, h9, h9]
      (repeat (refine And.intro ?_ ?_; focus (first | assumption | (try simp only [List.length_append, List.length_cons, List.length_nil] at *; omega))))
      refine step_call2 (node_Check_ok _ _ h8) (by try simp only [go_sem, h9, h9]; (repeat (first | exact WkL.refl _ | exact Wk.refl _ | exact Wk.nil _ | refine WkL.cons _ _ _ _ ?_ ?_ | exact WkL.nil | refine Wk.agg _ _ ?_ | refine Wk.tup _ _ ?_))) (by rfl) (by rfl) ?_
      simp only [go_sem, h9, h9]
      (repeat (refine And.intro ?_ ?_; focus (first | assumption | (try simp only [List.length_append, List.length_cons, List.length_nil] at *; omega))))
      refine hK _ _ fun nx => ?_; clear hK K; try clear kk
      refine awp_ret ?_; (repeat (with_reducible first | refine then_n ?_ | refine then_r ?_ | refine then_e ?_ | refine block_n ?_ | refine block_r ?_ | refine exit_here ?_ | refine exit_on rfl ?_ | refine scope_n ?_ | refine scope_r ?_ | refine scope_e ?_ | refine cut_awp ?_))
      obtain hR := Option.some.inj hh
      subst hR
      refine ret_pure2 ?_ (by rfl)
      simp only [go_sem, rvsRes, rvRes, cellRes, tupOf, pur2, List.map_cons, List.map_append, List.head?_cons]
      (repeat (first | exact Wk.refl _ | exact WkL.refl _ | exact Wk.nil _ | refine Wk.agg _ _ ?_ | refine Wk.tup _ _ ?_ | refine WkL.cons _ _ _ _ ?_ ?_ | exact WkL.nil))

end Go.Proofs.YtlgjbmgmoaphjaaDoor
