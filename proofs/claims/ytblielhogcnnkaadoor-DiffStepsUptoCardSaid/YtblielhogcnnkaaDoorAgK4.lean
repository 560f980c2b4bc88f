/- What the functions answer, the program answers (4). -/
import Derived.Test.YtblielhogcnnkaaDoorAgC
import Derived.Test.YtblielhogcnnkaaDoorAgF
import Derived.Test.YtblielhogcnnkaaDoorAgK3
namespace Go.Proofs.YtblielhogcnnkaaDoor
set_option linter.unusedSimpArgs false
set_option linter.unusedVariables false
open Go
set_option maxRecDepth 100000

theorem diptychref1_SameAll_grp : ∀ kr : Nat, (∀ (a_1 : (List api_Node)) (b_2 : (List api_Node)) (R : Bool), diptychref1_SameAll_k kr a_1 b_2 = some R → PC Tryd.prog 35 [.list 5 (a_1.map api_Node.pv), .list 5 (b_2.map api_Node.pv)] (.bool R)) ∧
    (∀ (a_1 : api_Node) (b_2 : api_Node) (R : Bool), diptychref1_Same_k kr a_1 b_2 = some R → PC Tryd.prog 66 [.agg [.str a_1.Kind, .str a_1.Text, .list 1 (a_1.Marks.map PV.str), .list 2 (a_1.Attrs.map api_Attr.pv), .list 5 (a_1.Kids.map api_Node.pv)], .agg [.str b_2.Kind, .str b_2.Text, .list 1 (b_2.Marks.map PV.str), .list 2 (b_2.Attrs.map api_Attr.pv), .list 5 (b_2.Kids.map api_Node.pv)]] (.bool R)) := by
  intro kr
  induction kr with
  | zero => exact ⟨(by intro a_1 b_2 R hh; rw [diptychref1_SameAll_k] at hh; cases hh), (by intro a_1 b_2 R hh; rw [diptychref1_Same_k] at hh; cases hh)⟩
  | succ kr ih =>
    obtain ⟨ih_diptychref1_SameAll, ih_diptychref1_Same⟩ := ih
    refine ⟨?_, ?_⟩
    · intro a_1 b_2 R hh
      rw [diptychref1_SameAll_k] at hh
      refine start_diptychref1_SameAll rfl ?_
      refine awp_first fun K kk hK => ?_
      simp only [go_sem]
      refine hK _ _ fun nx => ?_; clear hK K; try clear kk
      refine awp_seq ?_
      refine awp_first fun K kk hK => ?_
      simp only [go_sem]
      refine hK _ _ fun nx => ?_; clear hK K; try clear kk
      by_cases h1 : ((a_1.length : Int) != (b_2.length : Int)) = true
      · rw [if_pos h1] at hh
        refine awp_true (by first | exact congrArg PV.bool h1 | rfl) ?_
        refine awp_first fun K kk hK => ?_
        simp only [go_sem]
        refine hK _ _ fun nx => ?_; clear hK K; try clear kk
        refine awp_ret ?_; refine nmx ?_
        obtain hR := Option.some.inj hh
        subst hR
        exact ret_p2
      · rw [if_neg h1] at hh
        replace h1 := Bool.eq_false_iff.mpr h1
        refine awp_false (by first | exact congrArg PV.bool h1 | rfl) ?_
        refine awp_skip ?_; refine nmx ?_
        refine awp_seq ?_
        refine awp_first fun K kk hK => ?_
        simp only [go_sem]
        refine hK _ _ fun nx => ?_; clear hK K; try clear kk
        obtain ⟨e0, f0, hh⟩ := bind_ex hh
        obtain ⟨hlen0, f0⟩ := chk_some f0
        refine awp_fragE (CutTo (fun s => .inr () = e0 ∧ ∃ (i_14 : Int) (v_15 : Bool) (nx : Nat), s = ⟨[(0, .list 5 (a_1.map api_Node.pv)), (1, .list 5 (b_2.map api_Node.pv)), (5, .int .i64 i_14), (14, .bool v_15)], [], nx⟩))
          (fun i s => False)
          (fun s => ∃ res_13, .inl res_13 = e0 ∧ bodyR Tryd.prog [.tmp 4] (.bool res_13) [] .ret s) ?_ ?_ ?_ ?_
        · refine awp_block ?_
          refine awp_loopJ fun I hI => ?_
          have key : ∀ (suf pre : List api_Node) (i_6 : Int), a_1 = pre ++ suf → i_6 = (pre.length : Int) → diptychref1_SameAll_l0 b_2 (diptychref1_Same_k kr) suf i_6 = some e0 → ∀ (nx : Nat), I ⟨[(0, .list 5 (a_1.map api_Node.pv)), (1, .list 5 (b_2.map api_Node.pv)), (5, .int .i64 i_6)], [], nx⟩ := by
            intro suf
            induction suf with
            | nil =>
              intro pre i_6 hsplit hidx hh nx
              rw [diptychref1_SameAll_l0] at hh
              refine hI _ ?_
              have h12 := walk_nil hsplit hidx
              refine awp_seq ?_
              refine awp_first fun K kk hK => ?_
              simp only [go_sem]
              refine hK _ _ fun nx => ?_; clear hK K; try clear kk
              refine awp_false (by first | exact congrArg PV.bool h12 | rfl) ?_
              refine awp_exit ?_; refine nmx ?_
              refine fragN ?_
              refine cut_id ?_
              refine ⟨(Option.some.inj hh), ?_⟩
              first | exact ⟨_, _, _, rfl⟩ | (simp only [api_Attr.pv_eq, api_Node.pv_eq, step_Step.pv_eq, diff_change.pv_eq, diptychref11_Step.pv_eq, pvL, List.map_cons, List.map_nil, List.map_append, rune1]; exact ⟨_, _, _, rfl⟩) | (simp only [api_Attr.pv_eq, api_Node.pv_eq, step_Step.pv_eq, diff_change.pv_eq, diptychref11_Step.pv_eq, pvL, List.map_cons, List.map_nil, List.map_append, rune1, h1, h12]; exact ⟨_, _, _, rfl⟩)
            | cons y_10 suf ih =>
              intro pre i_6 hsplit hidx hh nx
              rw [diptychref1_SameAll_l0] at hh
              refine hI _ ?_
              obtain ⟨hl0a, hl0b, hl0d, hl0w, h12⟩ := walk_cons (f := api_Node.pv) hsplit hidx hlen0
              refine awp_seq ?_
              refine awp_first fun K kk hK => ?_
              simp only [go_sem]
              refine hK _ _ fun nx => ?_; clear hK K; try clear kk
              refine awp_true (by first | exact congrArg PV.bool h12 | rfl) ?_
              refine awp_skip ?_; refine nmx ?_
              refine awp_seq ?_
              refine awp_block ?_
              obtain ⟨x_11, h13, hh⟩ := bind_ex hh
              obtain ⟨h13a, h13b, h13c⟩ := rd_some h13
              have h13d := rd_get (f := api_Node.pv) h13c
              have h13f := rd_more (f := api_Node.pv) h13c
              try simp only [Int.toNat_natCast, Int.reduceToNat] at h13d h13f
              obtain ⟨same_12, h14, hh⟩ := bind_ex hh
              refine awp_first fun K kk hK => ?_
              simp only [go_sem, h13a, h13b, h13d, h13f.1, h13f.2, hl0a, hl0b, hl0d, hl0w]
              (repeat refine sd ?_)
              refine step_call2 (ih_diptychref1_Same _ _ _ h14) (by (try simp only [go_sem, h13a, h13b, h13d, h13f.1, h13f.2, hl0a, hl0b, hl0d, hl0w]) <;> exact wkl) (by rfl) (by rfl) ?_
              simp only [go_sem, h13a, h13b, h13d, h13f.1, h13f.2, hl0a, hl0b, hl0d, hl0w]
              (repeat refine sd ?_)
              refine hK _ _ fun nx => ?_; clear hK K; try clear kk
              by_cases h15 : (!same_12) = true
              · rw [if_pos h15] at hh
                refine awp_true (by first | exact congrArg PV.bool h15 | rfl) ?_
                refine awp_first fun K kk hK => ?_
                simp only [go_sem, hl0a, hl0b, hl0d, hl0w]
                refine hK _ _ fun nx => ?_; clear hK K; try clear kk
                refine awp_ret ?_; refine nmx ?_
                refine fragR ⟨_, (Option.some.inj hh), ?_⟩
                exact ret_p2
              · rw [if_neg h15] at hh
                replace h15 := Bool.eq_false_iff.mpr h15
                refine awp_false (by first | exact congrArg PV.bool h15 | rfl) ?_
                refine awp_skip ?_; refine nmx ?_
                refine awp_region fun K kk hK => ?_
                simp only [go_sem, hl0a, hl0b, hl0d, hl0w]
                refine hK _ _ fun nx => ?_; clear hK K; try clear kk
                refine nmx ?_
                have ih' := ih (pre ++ [y_10]) (i_6 + 1) (by rw [hsplit]; simp) (by simp [hidx]) hh nx
                refine cut_id ?_
                first | exact ih' | (simp only [api_Attr.pv_eq, api_Node.pv_eq, step_Step.pv_eq, diff_change.pv_eq, diptychref11_Step.pv_eq, pvL, List.map_cons, List.map_nil, List.map_append, rune1] at ih' ⊢; exact ih') | (simp only [api_Attr.pv_eq, api_Node.pv_eq, step_Step.pv_eq, diff_change.pv_eq, diptychref11_Step.pv_eq, pvL, List.map_cons, List.map_nil, List.map_append, rune1, h1, h12, h15] at ih' ⊢; exact ih')
          exact key a_1 [] _ rfl rfl f0 _
        · rintro s ⟨t, hless, rfl, i_14, v_15, nx, rfl⟩
          try dsimp only at hh
          refine nmy ?_
          first | (refine cut_less hless ?_; try refine cut_awp ?_) | refine frag_less hless ?_ | refine body_less hless ?_
          refine awp_first fun K kk hK => ?_
          simp only [go_sem]
          refine hK _ _ fun nx => ?_; clear hK K; try clear kk
          refine awp_ret ?_; refine nmx ?_
          obtain hR := Option.some.inj hh
          subst hR
          exact ret_p2
        · intro i s h; exact h.elim
        · rintro s ⟨res_13, rfl, hb⟩
          try dsimp only at hh
          obtain hR := Option.some.inj hh
          subst hR
          refine nmx ?_
          exact hb
    · intro a_1 b_2 R hh
      rw [diptychref1_Same_k] at hh
      refine start_diptychref1_Same rfl ?_
      refine awp_first fun K kk hK => ?_
      simp only [go_sem]
      refine hK _ _ fun nx => ?_; clear hK K; try clear kk
      refine awp_seq ?_
      by_cases h1 : (!(a_1.Kind == b_2.Kind)) = true
      · rw [if_pos h1] at hh
        refine awp_first fun K kk hK => ?_
        simp only [go_sem, h1, h1]
        (repeat refine sd ?_)
        refine hK _ _ fun nx => ?_; clear hK K; try clear kk
        refine awp_true rfl ?_
        refine awp_first fun K kk hK => ?_
        simp only [go_sem]
        refine hK _ _ fun nx => ?_; clear hK K; try clear kk
        refine awp_ret ?_; refine nmx ?_
        obtain hR := Option.some.inj hh
        subst hR
        exact ret_p2
      · rw [if_neg h1] at hh
        replace h1 := Bool.eq_false_iff.mpr h1
        by_cases h2 : (!(a_1.Text == b_2.Text)) = true
        · rw [if_pos h2] at hh
          refine awp_first fun K kk hK => ?_
          simp only [go_sem, h1, h1, h2, h2]
          (repeat refine sd ?_)
          refine hK _ _ fun nx => ?_; clear hK K; try clear kk
          refine awp_true rfl ?_
          refine awp_first fun K kk hK => ?_
          simp only [go_sem]
          refine hK _ _ fun nx => ?_; clear hK K; try clear kk
          refine awp_ret ?_; refine nmx ?_
          obtain hR := Option.some.inj hh
          subst hR
          exact ret_p2
        · rw [if_neg h2] at hh
          replace h2 := Bool.eq_false_iff.mpr h2
          obtain ⟨samena_3, h3, hh⟩ := bind_ex hh
          by_cases h4 : (!samena_3) = true
          · rw [if_pos h4] at hh
            refine awp_first fun K kk hK => ?_
            simp only [go_sem, h1, h1, h2, h2, h4, h4]
            (repeat refine sd ?_)
            refine step_call2 (diptychref1_sameNames_ok _ _ _ h3) (by (try simp only [go_sem, h1, h1, h2, h2, h4, h4]) <;> exact wkl) (by rfl) (by rfl) ?_
            simp only [go_sem, h1, h1, h2, h2, h4, h4]
            (repeat refine sd ?_)
            refine hK _ _ fun nx => ?_; clear hK K; try clear kk
            refine awp_true rfl ?_
            refine awp_first fun K kk hK => ?_
            simp only [go_sem]
            refine hK _ _ fun nx => ?_; clear hK K; try clear kk
            refine awp_ret ?_; refine nmx ?_
            obtain hR := Option.some.inj hh
            subst hR
            exact ret_p2
          · rw [if_neg h4] at hh
            replace h4 := Bool.eq_false_iff.mpr h4
            refine awp_first fun K kk hK => ?_
            simp only [go_sem, h1, h1, h2, h2, h4, h4]
            (repeat refine sd ?_)
            refine step_call2 (diptychref1_sameNames_ok _ _ _ h3) (by (try simp only [go_sem, h1, h1, h2, h2, h4, h4]) <;> exact wkl) (by rfl) (by rfl) ?_
            simp only [go_sem, h1, h1, h2, h2, h4, h4]
            (repeat refine sd ?_)
            refine hK _ _ fun nx => ?_; clear hK K; try clear kk
            by_cases h5 : ((a_1.Attrs.length : Int) != (b_2.Attrs.length : Int)) = true
            · rw [if_pos h5] at hh
              refine awp_true (by first | exact congrArg PV.bool h5 | rfl) ?_
              refine awp_first fun K kk hK => ?_
              simp only [go_sem]
              refine hK _ _ fun nx => ?_; clear hK K; try clear kk
              refine awp_ret ?_; refine nmx ?_
              obtain hR := Option.some.inj hh
              subst hR
              exact ret_p2
            · rw [if_neg h5] at hh
              replace h5 := Bool.eq_false_iff.mpr h5
              refine awp_false (by first | exact congrArg PV.bool h5 | rfl) ?_
              refine awp_skip ?_; refine nmx ?_
              refine awp_seq ?_
              refine awp_first fun K kk hK => ?_
              simp only [go_sem]
              refine hK _ _ fun nx => ?_; clear hK K; try clear kk
              obtain ⟨e0, f0, hh⟩ := bind_ex hh
              obtain ⟨hlen0, f0⟩ := chk_some f0
              refine awp_fragE (CutTo (fun s => .inr () = e0 ∧ ∃ (i_12 : Int) (v_13 : Bool) (nx : Nat) (g2 : Nat) (g3 : Nat), s = ⟨[(2, .box 2 g2 0), (3, .box 3 g3 0), (5, .int .i64 i_12), (39, .bool v_13)], [(2, g2, .var 28 [.str a_1.Kind, .str a_1.Text, .list 1 (a_1.Marks.map PV.str), .list 2 (a_1.Attrs.map api_Attr.pv), .list 5 (a_1.Kids.map api_Node.pv)]), (3, g3, .var 28 [.str b_2.Kind, .str b_2.Text, .list 1 (b_2.Marks.map PV.str), .list 2 (b_2.Attrs.map api_Attr.pv), .list 5 (b_2.Kids.map api_Node.pv)])], nx⟩))
                (fun i s => False)
                (fun s => ∃ res_11, .inl res_11 = e0 ∧ bodyR Tryd.prog [.tmp 4] (.bool res_11) [] .ret s) ?_ ?_ ?_ ?_
              · refine awp_block ?_
                refine awp_loopJ fun I hI => ?_
                have key : ∀ (suf pre : List api_Attr) (i_6 : Int), a_1.Attrs = pre ++ suf → i_6 = (pre.length : Int) → diptychref1_Same_l0 b_2 suf i_6 = some e0 → ∀ (nx : Nat) (g2 : Nat) (g3 : Nat), I ⟨[(2, .box 2 g2 0), (3, .box 3 g3 0), (5, .int .i64 i_6)], [(2, g2, .var 28 [.str a_1.Kind, .str a_1.Text, .list 1 (a_1.Marks.map PV.str), .list 2 (a_1.Attrs.map api_Attr.pv), .list 5 (a_1.Kids.map api_Node.pv)]), (3, g3, .var 28 [.str b_2.Kind, .str b_2.Text, .list 1 (b_2.Marks.map PV.str), .list 2 (b_2.Attrs.map api_Attr.pv), .list 5 (b_2.Kids.map api_Node.pv)])], nx⟩ := by
                  intro suf
                  induction suf with
                  | nil =>
                    intro pre i_6 hsplit hidx hh nx g2 g3
                    rw [diptychref1_Same_l0] at hh
                    refine hI _ ?_
                    have h14 := walk_nil hsplit hidx
                    refine awp_seq ?_
                    refine awp_first fun K kk hK => ?_
                    simp only [go_sem]
                    refine hK _ _ fun nx => ?_; clear hK K; try clear kk
                    refine awp_false (by first | exact congrArg PV.bool h14 | rfl) ?_
                    refine awp_exit ?_; refine nmx ?_
                    refine fragN ?_
                    refine cut_id ?_
                    refine ⟨(Option.some.inj hh), ?_⟩
                    first | exact ⟨_, _, _, _, _, rfl⟩ | (simp only [api_Attr.pv_eq, api_Node.pv_eq, step_Step.pv_eq, diff_change.pv_eq, diptychref11_Step.pv_eq, pvL, List.map_cons, List.map_nil, List.map_append, rune1]; exact ⟨_, _, _, _, _, rfl⟩) | (simp only [api_Attr.pv_eq, api_Node.pv_eq, step_Step.pv_eq, diff_change.pv_eq, diptychref11_Step.pv_eq, pvL, List.map_cons, List.map_nil, List.map_append, rune1, h1, h14, h2, h4, h5]; exact ⟨_, _, _, _, _, rfl⟩)
                  | cons y_9 suf ih =>
                    intro pre i_6 hsplit hidx hh nx g2 g3
                    rw [diptychref1_Same_l0] at hh
                    refine hI _ ?_
                    obtain ⟨hl0a, hl0b, hl0d, hl0w, h14⟩ := walk_cons (f := api_Attr.pv) hsplit hidx hlen0
                    refine awp_seq ?_
                    refine awp_first fun K kk hK => ?_
                    simp only [go_sem]
                    refine hK _ _ fun nx => ?_; clear hK K; try clear kk
                    refine awp_true (by first | exact congrArg PV.bool h14 | rfl) ?_
                    refine awp_skip ?_; refine nmx ?_
                    refine awp_seq ?_
                    refine awp_block ?_
                    obtain ⟨x_10, h15, hh⟩ := bind_ex hh
                    obtain ⟨h15a, h15b, h15c⟩ := rd_some h15
                    have h15d := rd_get (f := api_Attr.pv) h15c
                    have h15f := rd_more (f := api_Attr.pv) h15c
                    try simp only [Int.toNat_natCast, Int.reduceToNat] at h15d h15f
                    refine awp_first fun K kk hK => ?_
                    simp only [go_sem, h15a, h15b, h15d, h15f.1, h15f.2, hl0a, hl0b, hl0d, hl0w]
                    (repeat refine sd ?_)
                    refine hK _ _ fun nx => ?_; clear hK K; try clear kk
                    by_cases h16 : ((((y_9.Name == x_10.Name) && (y_9.Value == x_10.Value)) != true)) = true
                    · rw [if_pos h16] at hh
                      refine awp_true (by first | exact congrArg PV.bool h16 | rfl) ?_
                      refine awp_first fun K kk hK => ?_
                      simp only [go_sem, hl0a, hl0b, hl0d, hl0w]
                      refine hK _ _ fun nx => ?_; clear hK K; try clear kk
                      refine awp_ret ?_; refine nmx ?_
                      refine fragR ⟨_, (Option.some.inj hh), ?_⟩
                      exact ret_p2
                    · rw [if_neg h16] at hh
                      replace h16 := Bool.eq_false_iff.mpr h16
                      refine awp_false (by first | exact congrArg PV.bool h16 | rfl) ?_
                      refine awp_skip ?_; refine nmx ?_
                      refine awp_region fun K kk hK => ?_
                      simp only [go_sem, hl0a, hl0b, hl0d, hl0w]
                      refine hK _ _ fun nx => ?_; clear hK K; try clear kk
                      refine nmx ?_
                      have ih' := ih (pre ++ [y_9]) (i_6 + 1) (by rw [hsplit]; simp) (by simp [hidx]) hh nx
                      refine cut_id ?_
                      first | exact ih' _ _ | (simp only [api_Attr.pv_eq, api_Node.pv_eq, step_Step.pv_eq, diff_change.pv_eq, diptychref11_Step.pv_eq, pvL, List.map_cons, List.map_nil, List.map_append, rune1] at ih' ⊢; exact ih' _ _) | (simp only [api_Attr.pv_eq, api_Node.pv_eq, step_Step.pv_eq, diff_change.pv_eq, diptychref11_Step.pv_eq, pvL, List.map_cons, List.map_nil, List.map_append, rune1, h1, h14, h16, h2, h4, h5] at ih' ⊢; exact ih' _ _)
                exact key a_1.Attrs [] _ rfl rfl f0 _ _ _
              · rintro s ⟨t, hless, rfl, i_12, v_13, nx, g2, g3, rfl⟩
                try dsimp only at hh
                refine nmy ?_
                first | (refine cut_less hless ?_; try refine cut_awp ?_) | refine frag_less hless ?_ | refine body_less hless ?_
                obtain ⟨sameal_14, h17, hh⟩ := bind_ex hh
                refine awp_first fun K kk hK => ?_
                simp only [go_sem]
                refine step_call2 (ih_diptychref1_SameAll _ _ _ h17) (by (try simp only [go_sem]) <;> exact wkl) (by rfl) (by rfl) ?_
                simp only [go_sem]
                refine hK _ _ fun nx => ?_; clear hK K; try clear kk
                refine awp_ret ?_; refine nmx ?_
                obtain hR := Option.some.inj hh
                subst hR
                exact ret_p2
              · intro i s h; exact h.elim
              · rintro s ⟨res_11, rfl, hb⟩
                try dsimp only at hh
                obtain hR := Option.some.inj hh
                subst hR
                refine nmx ?_
                exact hb
theorem diptychref1_SameAll_ok (a_1 : (List api_Node)) (b_2 : (List api_Node)) (R : Bool) (hh : diptychref1_SameAll a_1 b_2 = some R) : PC Tryd.prog 35 [.list 5 (a_1.map api_Node.pv), .list 5 (b_2.map api_Node.pv)] (.bool R) := by
  rw [diptychref1_SameAll] at hh
  obtain ⟨kr, hh⟩ := lim_some hh
  exact (diptychref1_SameAll_grp kr).1 _ _ _ hh
theorem diptychref1_Same_ok (a_1 : api_Node) (b_2 : api_Node) (R : Bool) (hh : diptychref1_Same a_1 b_2 = some R) : PC Tryd.prog 66 [.agg [.str a_1.Kind, .str a_1.Text, .list 1 (a_1.Marks.map PV.str), .list 2 (a_1.Attrs.map api_Attr.pv), .list 5 (a_1.Kids.map api_Node.pv)], .agg [.str b_2.Kind, .str b_2.Text, .list 1 (b_2.Marks.map PV.str), .list 2 (b_2.Attrs.map api_Attr.pv), .list 5 (b_2.Kids.map api_Node.pv)]] (.bool R) := by
  rw [diptychref1_Same] at hh
  obtain ⟨kr, hh⟩ := lim_some hh
  exact (diptychref1_SameAll_grp kr).2 _ _ _ hh
theorem diptychref18_Where_grp : ∀ kr : Nat, (∀ (a_1 : api_Node) (b_2 : api_Node) (R : ((List Int) × Int × Int × Int)), diptychref18_Where_k kr a_1 b_2 = some R → PC Tryd.prog 24 [.agg [.str a_1.Kind, .str a_1.Text, .list 1 (a_1.Marks.map PV.str), .list 2 (a_1.Attrs.map api_Attr.pv), .list 5 (a_1.Kids.map api_Node.pv)], .agg [.str b_2.Kind, .str b_2.Text, .list 1 (b_2.Marks.map PV.str), .list 2 (b_2.Attrs.map api_Attr.pv), .list 5 (b_2.Kids.map api_Node.pv)]] (.tup [.list 1 (R.1.map (PV.int .i64)), .int .i64 R.2.1, .int .i64 R.2.2.1, .int .i64 R.2.2.2])) := by
  intro kr
  induction kr with
  | zero => exact (by intro a_1 b_2 R hh; rw [diptychref18_Where_k] at hh; cases hh)
  | succ kr ih =>
    have ih_diptychref18_Where := ih
    clear ih
    intro a_1 b_2 R hh
    rw [diptychref18_Where_k] at hh
    refine start_diptychref18_Where rfl ?_
    refine awp_first fun K kk hK => ?_
    simp only [go_sem]
    refine hK _ _ fun nx => ?_; clear hK K; try clear kk
    refine awp_first fun K kk hK => ?_
    simp only [go_sem]
    refine hK _ _ fun nx => ?_; clear hK K; try clear kk
    refine awp_seq ?_
    obtain ⟨e0, f0, hh⟩ := bind_ex hh
    obtain ⟨hlen0, f0⟩ := chk_some f0
    refine awp_frag (fun s => ∃ head_13, head_13 = e0 ∧ ∃ (v_14 : Bool) (nx : Nat) (g2 : Nat) (g3 : Nat), s = ⟨[(2, .box 2 g2 0), (3, .box 3 g3 0), (8, .int .i64 head_13), (39, .bool v_14)], [(2, g2, .var 28 [.str a_1.Kind, .str a_1.Text, .list 1 (a_1.Marks.map PV.str), .list 2 (a_1.Attrs.map api_Attr.pv), .list 5 (a_1.Kids.map api_Node.pv)]), (3, g3, .var 28 [.str b_2.Kind, .str b_2.Text, .list 1 (b_2.Marks.map PV.str), .list 2 (b_2.Attrs.map api_Attr.pv), .list 5 (b_2.Kids.map api_Node.pv)])], nx⟩)
      (fun i s => False)
      (fun s => False) ?_ ?_ ?_ ?_
    · refine awp_block ?_
      refine awp_loopJ fun I hI => ?_
      have key : ∀ (suf pre : List api_Node) (head_6 : Int), a_1.Kids = pre ++ suf → head_6 = (pre.length : Int) → diptychref18_Where_l0 b_2 suf head_6 = some e0 → ∀ (nx : Nat) (g2 : Nat) (g3 : Nat), I ⟨[(2, .box 2 g2 0), (3, .box 3 g3 0), (8, .int .i64 head_6)], [(2, g2, .var 28 [.str a_1.Kind, .str a_1.Text, .list 1 (a_1.Marks.map PV.str), .list 2 (a_1.Attrs.map api_Attr.pv), .list 5 (a_1.Kids.map api_Node.pv)]), (3, g3, .var 28 [.str b_2.Kind, .str b_2.Text, .list 1 (b_2.Marks.map PV.str), .list 2 (b_2.Attrs.map api_Attr.pv), .list 5 (b_2.Kids.map api_Node.pv)])], nx⟩ := by
        intro suf
        induction suf with
        | nil =>
          intro pre head_6 hsplit hidx hh nx g2 g3
          rw [diptychref18_Where_l0] at hh
          refine hI _ ?_
          have h13 := walk_nil hsplit hidx
          refine awp_seq ?_
          refine awp_first fun K kk hK => ?_
          simp only [go_sem, h13, of_decide_eq_false h13, h13, of_decide_eq_false h13]
          (repeat refine sd ?_)
          refine hK _ _ fun nx => ?_; clear hK K; try clear kk
          refine awp_false rfl ?_
          refine awp_exit ?_; refine nmx ?_
          refine fragN ?_
          refine cut_id ?_
          refine ⟨_, (Option.some.inj hh), ?_⟩
          first | exact ⟨_, _, _, _, rfl⟩ | (simp only [api_Attr.pv_eq, api_Node.pv_eq, step_Step.pv_eq, diff_change.pv_eq, diptychref11_Step.pv_eq, pvL, List.map_cons, List.map_nil, List.map_append, rune1]; exact ⟨_, _, _, _, rfl⟩) | (simp only [api_Attr.pv_eq, api_Node.pv_eq, step_Step.pv_eq, diff_change.pv_eq, diptychref11_Step.pv_eq, pvL, List.map_cons, List.map_nil, List.map_append, rune1, h13]; exact ⟨_, _, _, _, rfl⟩)
        | cons y_10 suf ih =>
          intro pre head_6 hsplit hidx hh nx g2 g3
          rw [diptychref18_Where_l0] at hh
          refine hI _ ?_
          obtain ⟨hl0a, hl0b, hl0d, hl0w, h13⟩ := walk_cons (f := api_Node.pv) hsplit hidx hlen0
          refine awp_seq ?_
          by_cases h14 : (decide (head_6 < (b_2.Kids.length : Int))) = true
          · rw [if_pos h14] at hh
            obtain ⟨x_11, h15, hh⟩ := bind_ex hh
            obtain ⟨h15a, h15b, h15c⟩ := rd_some h15
            have h15d := rd_get (f := api_Node.pv) h15c
            have h15f := rd_more (f := api_Node.pv) h15c
            try simp only [Int.toNat_natCast, Int.reduceToNat] at h15d h15f
            obtain ⟨same_12, h16, hh⟩ := bind_ex hh
            refine awp_first fun K kk hK => ?_
            simp only [go_sem, h13, of_decide_eq_true h13, h13, of_decide_eq_true h13, h14, of_decide_eq_true h14, h15a, h15b, h15d, h15f.1, h15f.2, h14, of_decide_eq_true h14, hl0a, hl0b, hl0d, hl0w]
            (repeat refine sd ?_)
            refine step_call2 (diptychref1_Same_ok _ _ _ h16) (by (try simp only [go_sem, h13, of_decide_eq_true h13, h13, of_decide_eq_true h13, h14, of_decide_eq_true h14, h15a, h15b, h15d, h15f.1, h15f.2, h14, of_decide_eq_true h14, hl0a, hl0b, hl0d, hl0w]) <;> exact wkl) (by rfl) (by rfl) ?_
            simp only [go_sem, h13, of_decide_eq_true h13, h13, of_decide_eq_true h13, h14, of_decide_eq_true h14, h15a, h15b, h15d, h15f.1, h15f.2, h14, of_decide_eq_true h14, hl0a, hl0b, hl0d, hl0w]
            (repeat refine sd ?_)
            refine hK _ _ fun nx => ?_; clear hK K; try clear kk
            by_cases h17 : (same_12) = true
            · rw [if_pos h17] at hh
              refine awp_true (by first | exact congrArg PV.bool h17 | rfl) ?_
              refine awp_skip ?_; refine nmx ?_
              refine awp_block ?_
              refine awp_region fun K kk hK => ?_
              simp only [go_sem, hl0a, hl0b, hl0d, hl0w]
              refine hK _ _ fun nx => ?_; clear hK K; try clear kk
              refine nmx ?_
              have ih' := ih (pre ++ [y_10]) (head_6 + 1) (by rw [hsplit]; simp) (by simp [hidx]) hh nx
              refine cut_id ?_
              first | exact ih' _ _ | (simp only [api_Attr.pv_eq, api_Node.pv_eq, step_Step.pv_eq, diff_change.pv_eq, diptychref11_Step.pv_eq, pvL, List.map_cons, List.map_nil, List.map_append, rune1] at ih' ⊢; exact ih' _ _) | (simp only [api_Attr.pv_eq, api_Node.pv_eq, step_Step.pv_eq, diff_change.pv_eq, diptychref11_Step.pv_eq, pvL, List.map_cons, List.map_nil, List.map_append, rune1, h13, h14, h17] at ih' ⊢; exact ih' _ _)
            · rw [if_neg h17] at hh
              replace h17 := Bool.eq_false_iff.mpr h17
              refine awp_false (by first | exact congrArg PV.bool h17 | rfl) ?_
              refine awp_exit ?_; refine nmx ?_
              refine fragN ?_
              refine cut_id ?_
              refine ⟨_, (Option.some.inj hh), ?_⟩
              first | exact ⟨_, _, _, _, rfl⟩ | (simp only [api_Attr.pv_eq, api_Node.pv_eq, step_Step.pv_eq, diff_change.pv_eq, diptychref11_Step.pv_eq, pvL, List.map_cons, List.map_nil, List.map_append, rune1]; exact ⟨_, _, _, _, rfl⟩) | (simp only [api_Attr.pv_eq, api_Node.pv_eq, step_Step.pv_eq, diff_change.pv_eq, diptychref11_Step.pv_eq, pvL, List.map_cons, List.map_nil, List.map_append, rune1, h13, h14, h17]; exact ⟨_, _, _, _, rfl⟩)
          · rw [if_neg h14] at hh
            replace h14 := Bool.eq_false_iff.mpr h14
            refine awp_first fun K kk hK => ?_
            simp only [go_sem, h13, of_decide_eq_true h13, h13, of_decide_eq_true h13, h14, of_decide_eq_false h14, h14, of_decide_eq_false h14, hl0a, hl0b, hl0d, hl0w]
            (repeat refine sd ?_)
            refine hK _ _ fun nx => ?_; clear hK K; try clear kk
            refine awp_false rfl ?_
            refine awp_exit ?_; refine nmx ?_
            refine fragN ?_
            refine cut_id ?_
            refine ⟨_, (Option.some.inj hh), ?_⟩
            first | exact ⟨_, _, _, _, rfl⟩ | (simp only [api_Attr.pv_eq, api_Node.pv_eq, step_Step.pv_eq, diff_change.pv_eq, diptychref11_Step.pv_eq, pvL, List.map_cons, List.map_nil, List.map_append, rune1]; exact ⟨_, _, _, _, rfl⟩) | (simp only [api_Attr.pv_eq, api_Node.pv_eq, step_Step.pv_eq, diff_change.pv_eq, diptychref11_Step.pv_eq, pvL, List.map_cons, List.map_nil, List.map_append, rune1, h13, h14]; exact ⟨_, _, _, _, rfl⟩)
      exact key a_1.Kids [] _ rfl rfl f0 _ _ _
    · rintro s ⟨head_13, rfl, v_14, nx, g2, g3, rfl⟩
      try dsimp only at hh
      refine awp_first fun K kk hK => ?_
      simp only [go_sem]
      refine hK _ _ fun nx => ?_; clear hK K; try clear kk
      refine awp_first fun K kk hK => ?_
      simp only [go_sem]
      refine hK _ _ fun nx => ?_; clear hK K; try clear kk
      refine awp_seq ?_
      obtain ⟨e1, f1, hh⟩ := bind_ex hh
      refine awp_frag (fun s => ∃ x_23, ∃ y_24, (x_23, y_24) = e1 ∧ ∃ (v_25 : Bool) (nx : Nat) (g2 : Nat) (g3 : Nat), s = ⟨[(2, .box 2 g2 0), (3, .box 3 g3 0), (8, .int .i64 head_13), (9, .int .i64 x_23), (10, .int .i64 y_24), (70, .bool v_25)], [(2, g2, .var 28 [.str a_1.Kind, .str a_1.Text, .list 1 (a_1.Marks.map PV.str), .list 2 (a_1.Attrs.map api_Attr.pv), .list 5 (a_1.Kids.map api_Node.pv)]), (3, g3, .var 28 [.str b_2.Kind, .str b_2.Text, .list 1 (b_2.Marks.map PV.str), .list 2 (b_2.Attrs.map api_Attr.pv), .list 5 (b_2.Kids.map api_Node.pv)])], nx⟩)
        (fun i s => False)
        (fun s => False) ?_ ?_ ?_ ?_
      · refine awp_block ?_
        refine awp_loopJ fun I hI => ?_
        obtain ⟨k, f1⟩ := lim_some f1
        have key : ∀ (k : Nat) (x_18 : Int) (y_19 : Int), diptychref18_Where_l1 a_1 b_2 head_13 k x_18 y_19 = some e1 → ∀ (nx : Nat) (g2 : Nat) (g3 : Nat), I ⟨[(2, .box 2 g2 0), (3, .box 3 g3 0), (8, .int .i64 head_13), (9, .int .i64 x_18), (10, .int .i64 y_19)], [(2, g2, .var 28 [.str a_1.Kind, .str a_1.Text, .list 1 (a_1.Marks.map PV.str), .list 2 (a_1.Attrs.map api_Attr.pv), .list 5 (a_1.Kids.map api_Node.pv)]), (3, g3, .var 28 [.str b_2.Kind, .str b_2.Text, .list 1 (b_2.Marks.map PV.str), .list 2 (b_2.Attrs.map api_Attr.pv), .list 5 (b_2.Kids.map api_Node.pv)])], nx⟩ := by
          intro k
          induction k with
          | zero => intro x_18 y_19 hh; rw [diptychref18_Where_l1] at hh; cases hh
          | succ k ih =>
            intro x_18 y_19 hh nx g2 g3
            rw [diptychref18_Where_l1] at hh
            refine hI _ ?_
            refine awp_seq ?_
            by_cases h24 : (decide (x_18 > head_13)) = true
            · rw [if_pos h24] at hh
              by_cases h25 : (decide (y_19 > head_13)) = true
              · rw [if_pos h25] at hh
                obtain ⟨x_20, h26, hh⟩ := bind_ex hh
                obtain ⟨h26a, h26b, h26c⟩ := rd_some h26
                have h26d := rd_get (f := api_Node.pv) h26c
                have h26f := rd_more (f := api_Node.pv) h26c
                try simp only [Int.toNat_natCast, Int.reduceToNat] at h26d h26f
                obtain ⟨x_21, h27, hh⟩ := bind_ex hh
                obtain ⟨h27a, h27b, h27c⟩ := rd_some h27
                have h27d := rd_get (f := api_Node.pv) h27c
                have h27f := rd_more (f := api_Node.pv) h27c
                try simp only [Int.toNat_natCast, Int.reduceToNat] at h27d h27f
                obtain ⟨same_22, h28, hh⟩ := bind_ex hh
                refine awp_first fun K kk hK => ?_
                simp only [go_sem, h24, of_decide_eq_true h24, h24, of_decide_eq_true h24, h25, of_decide_eq_true h25, h26a, h26b, h26d, h26f.1, h26f.2, h27a, h27b, h27d, h27f.1, h27f.2, h25, of_decide_eq_true h25]
                (repeat refine sd ?_)
                refine step_call2 (diptychref1_Same_ok _ _ _ h28) (by (try simp only [go_sem, h24, of_decide_eq_true h24, h24, of_decide_eq_true h24, h25, of_decide_eq_true h25, h26a, h26b, h26d, h26f.1, h26f.2, h27a, h27b, h27d, h27f.1, h27f.2, h25, of_decide_eq_true h25]) <;> exact wkl) (by rfl) (by rfl) ?_
                simp only [go_sem, h24, of_decide_eq_true h24, h24, of_decide_eq_true h24, h25, of_decide_eq_true h25, h26a, h26b, h26d, h26f.1, h26f.2, h27a, h27b, h27d, h27f.1, h27f.2, h25, of_decide_eq_true h25]
                (repeat refine sd ?_)
                refine hK _ _ fun nx => ?_; clear hK K; try clear kk
                by_cases h29 : (same_22) = true
                · rw [if_pos h29] at hh
                  refine awp_true (by first | exact congrArg PV.bool h29 | rfl) ?_
                  refine awp_skip ?_; refine nmx ?_
                  refine awp_block ?_
                  refine awp_first fun K kk hK => ?_
                  simp only [go_sem]
                  refine hK _ _ fun nx => ?_; clear hK K; try clear kk
                  refine awp_region fun K kk hK => ?_
                  simp only [go_sem]
                  refine hK _ _ fun nx => ?_; clear hK K; try clear kk
                  refine nmx ?_
                  have ih' := ih _ _ hh nx
                  refine cut_id ?_
                  first | exact ih' _ _ | (simp only [api_Attr.pv_eq, api_Node.pv_eq, step_Step.pv_eq, diff_change.pv_eq, diptychref11_Step.pv_eq, pvL, List.map_cons, List.map_nil, List.map_append, rune1] at ih' ⊢; exact ih' _ _) | (simp only [api_Attr.pv_eq, api_Node.pv_eq, step_Step.pv_eq, diff_change.pv_eq, diptychref11_Step.pv_eq, pvL, List.map_cons, List.map_nil, List.map_append, rune1, h24, h25, h29] at ih' ⊢; exact ih' _ _)
                · rw [if_neg h29] at hh
                  replace h29 := Bool.eq_false_iff.mpr h29
                  refine awp_false (by first | exact congrArg PV.bool h29 | rfl) ?_
                  refine awp_exit ?_; refine nmx ?_
                  refine fragN ?_
                  refine cut_id ?_
                  refine ⟨_, _, (Option.some.inj hh), ?_⟩
                  first | exact ⟨_, _, _, _, rfl⟩ | (simp only [api_Attr.pv_eq, api_Node.pv_eq, step_Step.pv_eq, diff_change.pv_eq, diptychref11_Step.pv_eq, pvL, List.map_cons, List.map_nil, List.map_append, rune1]; exact ⟨_, _, _, _, rfl⟩) | (simp only [api_Attr.pv_eq, api_Node.pv_eq, step_Step.pv_eq, diff_change.pv_eq, diptychref11_Step.pv_eq, pvL, List.map_cons, List.map_nil, List.map_append, rune1, h24, h25, h29]; exact ⟨_, _, _, _, rfl⟩)
              · rw [if_neg h25] at hh
                replace h25 := Bool.eq_false_iff.mpr h25
                refine awp_first fun K kk hK => ?_
                simp only [go_sem, h24, of_decide_eq_true h24, h24, of_decide_eq_true h24, h25, of_decide_eq_false h25, h25, of_decide_eq_false h25]
                (repeat refine sd ?_)
                refine hK _ _ fun nx => ?_; clear hK K; try clear kk
                refine awp_false rfl ?_
                refine awp_exit ?_; refine nmx ?_
                refine fragN ?_
                refine cut_id ?_
                refine ⟨_, _, (Option.some.inj hh), ?_⟩
                first | exact ⟨_, _, _, _, rfl⟩ | (simp only [api_Attr.pv_eq, api_Node.pv_eq, step_Step.pv_eq, diff_change.pv_eq, diptychref11_Step.pv_eq, pvL, List.map_cons, List.map_nil, List.map_append, rune1]; exact ⟨_, _, _, _, rfl⟩) | (simp only [api_Attr.pv_eq, api_Node.pv_eq, step_Step.pv_eq, diff_change.pv_eq, diptychref11_Step.pv_eq, pvL, List.map_cons, List.map_nil, List.map_append, rune1, h24, h25]; exact ⟨_, _, _, _, rfl⟩)
            · rw [if_neg h24] at hh
              replace h24 := Bool.eq_false_iff.mpr h24
              refine awp_first fun K kk hK => ?_
              simp only [go_sem, h24, of_decide_eq_false h24, h24, of_decide_eq_false h24]
              (repeat refine sd ?_)
              refine hK _ _ fun nx => ?_; clear hK K; try clear kk
              refine awp_false rfl ?_
              refine awp_exit ?_; refine nmx ?_
              refine fragN ?_
              refine cut_id ?_
              refine ⟨_, _, (Option.some.inj hh), ?_⟩
              first | exact ⟨_, _, _, _, rfl⟩ | (simp only [api_Attr.pv_eq, api_Node.pv_eq, step_Step.pv_eq, diff_change.pv_eq, diptychref11_Step.pv_eq, pvL, List.map_cons, List.map_nil, List.map_append, rune1]; exact ⟨_, _, _, _, rfl⟩) | (simp only [api_Attr.pv_eq, api_Node.pv_eq, step_Step.pv_eq, diff_change.pv_eq, diptychref11_Step.pv_eq, pvL, List.map_cons, List.map_nil, List.map_append, rune1, h24]; exact ⟨_, _, _, _, rfl⟩)
        exact key _ _ _ f1 _ _ _
      · rintro s ⟨x_23, y_24, rfl, v_25, nx, g2, g3, rfl⟩
        try dsimp only at hh
        refine awp_seq ?_
        by_cases h30 : (x_23 == (w64 (head_13 + (1 : Int)))) = true
        · rw [if_pos h30] at hh
          by_cases h31 : (y_24 == (w64 (head_13 + (1 : Int)))) = true
          · rw [if_pos h31] at hh
            obtain ⟨x_26, h32, hh⟩ := bind_ex hh
            obtain ⟨h32a, h32b, h32c⟩ := rd_some h32
            have h32d := rd_get (f := api_Node.pv) h32c
            have h32f := rd_more (f := api_Node.pv) h32c
            try simp only [Int.toNat_natCast, Int.reduceToNat] at h32d h32f
            obtain ⟨x_27, h33, hh⟩ := bind_ex hh
            obtain ⟨h33a, h33b, h33c⟩ := rd_some h33
            have h33d := rd_get (f := api_Node.pv) h33c
            have h33f := rd_more (f := api_Node.pv) h33c
            try simp only [Int.toNat_natCast, Int.reduceToNat] at h33d h33f
            obtain ⟨alike_28, h34, hh⟩ := bind_ex hh
            refine awp_first fun K kk hK => ?_
            simp only [go_sem, h30, h30, h31, h32a, h32b, h32d, h32f.1, h32f.2, h33a, h33b, h33d, h33f.1, h33f.2, h31]
            (repeat refine sd ?_)
            refine step_call2 (diptychref18_alike_ok _ _ _ h34) (by (try simp only [go_sem, h30, h30, h31, h32a, h32b, h32d, h32f.1, h32f.2, h33a, h33b, h33d, h33f.1, h33f.2, h31]) <;> exact wkl) (by rfl) (by rfl) ?_
            simp only [go_sem, h30, h30, h31, h32a, h32b, h32d, h32f.1, h32f.2, h33a, h33b, h33d, h33f.1, h33f.2, h31]
            (repeat refine sd ?_)
            refine hK _ _ fun nx => ?_; clear hK K; try clear kk
            by_cases h35 : (alike_28) = true
            · rw [if_pos h35] at hh
              refine awp_true (by first | exact congrArg PV.bool h35 | rfl) ?_
              obtain ⟨⟨r_29, r_30, r_31, r_32⟩, h36, hh⟩ := bind_ex hh
              dsimp only at hh
              refine awp_first fun K kk hK => ?_
              simp only [go_sem, h32a, h32b, h32d, h32f.1, h32f.2, h33a, h33b, h33d, h33f.1, h33f.2]
              (repeat refine sd ?_)
              refine step_call2 (ih_diptychref18_Where _ _ _ h36) (by (try simp only [go_sem, h32a, h32b, h32d, h32f.1, h32f.2, h33a, h33b, h33d, h33f.1, h33f.2]) <;> exact wkl) (by rfl) (by rfl) ?_
              simp only [go_sem, h32a, h32b, h32d, h32f.1, h32f.2, h33a, h33b, h33d, h33f.1, h33f.2]
              (repeat refine sd ?_)
              refine hK _ _ fun nx => ?_; clear hK K; try clear kk
              obtain ⟨l_33, h37, hh⟩ := bind_ex hh
              obtain ⟨h37a, h37c⟩ := app_some h37
              have h37d := app_map (f := (PV.int .i64)) h37c
              have h37e := app_len h37c
              try simp only [List.length_cons, List.length_nil, Nat.zero_add, Nat.reduceAdd] at h37a h37e
              try simp only [h37e] at h37a
              try simp only [List.map_cons, List.map_nil, List.nil_append, List.append_nil, List.cons_append, List.singleton_append, rune1, api_Attr.pv_eq, api_Node.pv_eq, step_Step.pv_eq, diff_change.pv_eq, diptychref11_Step.pv_eq, pvL] at h37d
              refine awp_first fun K kk hK => ?_
              simp only [go_sem, h37a, h37d, h37e]
              (repeat refine sd ?_)
              refine hK _ _ fun nx => ?_; clear hK K; try clear kk
              refine awp_ret ?_; refine nmx ?_
              obtain hR := Option.some.inj hh
              subst hR
              exact ret_p2
            · rw [if_neg h35] at hh
              replace h35 := Bool.eq_false_iff.mpr h35
              refine awp_false (by first | exact congrArg PV.bool h35 | rfl) ?_
              refine awp_skip ?_; refine nmx ?_
              refine awp_first fun K kk hK => ?_
              simp only [go_sem]
              refine hK _ _ fun nx => ?_; clear hK K; try clear kk
              refine awp_ret ?_; refine nmx ?_
              obtain hR := Option.some.inj hh
              subst hR
              exact ret_p2
          · rw [if_neg h31] at hh
            replace h31 := Bool.eq_false_iff.mpr h31
            refine awp_first fun K kk hK => ?_
            simp only [go_sem, h30, h30, h31, h31]
            (repeat refine sd ?_)
            refine hK _ _ fun nx => ?_; clear hK K; try clear kk
            refine awp_false rfl ?_
            refine awp_skip ?_; refine nmx ?_
            refine awp_first fun K kk hK => ?_
            simp only [go_sem]
            refine hK _ _ fun nx => ?_; clear hK K; try clear kk
            refine awp_ret ?_; refine nmx ?_
            obtain hR := Option.some.inj hh
            subst hR
            exact ret_p2
        · rw [if_neg h30] at hh
          replace h30 := Bool.eq_false_iff.mpr h30
          refine awp_first fun K kk hK => ?_
          simp only [go_sem, h30, h30]
          (repeat refine sd ?_)
          refine hK _ _ fun nx => ?_; clear hK K; try clear kk
          refine awp_false rfl ?_
          refine awp_skip ?_; refine nmx ?_
          refine awp_first fun K kk hK => ?_
          simp only [go_sem]
          refine hK _ _ fun nx => ?_; clear hK K; try clear kk
          refine awp_ret ?_; refine nmx ?_
          obtain hR := Option.some.inj hh
          subst hR
          exact ret_p2
      · intro i s h; exact h.elim
      · intro s h; exact h.elim
    · intro i s h; exact h.elim
    · intro s h; exact h.elim
theorem diptychref18_Where_ok (a_1 : api_Node) (b_2 : api_Node) (R : ((List Int) × Int × Int × Int)) (hh : diptychref18_Where a_1 b_2 = some R) : PC Tryd.prog 24 [.agg [.str a_1.Kind, .str a_1.Text, .list 1 (a_1.Marks.map PV.str), .list 2 (a_1.Attrs.map api_Attr.pv), .list 5 (a_1.Kids.map api_Node.pv)], .agg [.str b_2.Kind, .str b_2.Text, .list 1 (b_2.Marks.map PV.str), .list 2 (b_2.Attrs.map api_Attr.pv), .list 5 (b_2.Kids.map api_Node.pv)]] (.tup [.list 1 (R.1.map (PV.int .i64)), .int .i64 R.2.1, .int .i64 R.2.2.1, .int .i64 R.2.2.2]) := by
  rw [diptychref18_Where] at hh
  obtain ⟨kr, hh⟩ := lim_some hh
  exact (diptychref18_Where_grp kr) _ _ _ hh
theorem diptychref1_Depth_grp : ∀ kr : Nat, (∀ (n_1 : api_Node) (R : Int), diptychref1_Depth_k kr n_1 = some R → PC Tryd.prog 69 [.agg [.str n_1.Kind, .str n_1.Text, .list 1 (n_1.Marks.map PV.str), .list 2 (n_1.Attrs.map api_Attr.pv), .list 5 (n_1.Kids.map api_Node.pv)]] (.int .i64 R)) := by
  intro kr
  induction kr with
  | zero => exact (by intro n_1 R hh; rw [diptychref1_Depth_k] at hh; cases hh)
  | succ kr ih =>
    have ih_diptychref1_Depth := ih
    clear ih
    intro n_1 R hh
    rw [diptychref1_Depth_k] at hh
    refine start_diptychref1_Depth rfl ?_
    refine awp_first fun K kk hK => ?_
    simp only [go_sem]
    refine hK _ _ fun nx => ?_; clear hK K; try clear kk
    refine awp_seq ?_
    refine awp_first fun K kk hK => ?_
    simp only [go_sem]
    refine hK _ _ fun nx => ?_; clear hK K; try clear kk
    by_cases h1 : (n_1.Kind == ([116, 101, 120, 116] : Str)) = true
    · rw [if_pos h1] at hh
      refine awp_true (by first | exact congrArg PV.bool h1 | rfl) ?_
      refine awp_first fun K kk hK => ?_
      simp only [go_sem]
      refine hK _ _ fun nx => ?_; clear hK K; try clear kk
      refine awp_ret ?_; refine nmx ?_
      obtain hR := Option.some.inj hh
      subst hR
      exact ret_p2
    · rw [if_neg h1] at hh
      replace h1 := Bool.eq_false_iff.mpr h1
      refine awp_false (by first | exact congrArg PV.bool h1 | rfl) ?_
      refine awp_skip ?_; refine nmx ?_
      refine awp_first fun K kk hK => ?_
      simp only [go_sem]
      refine hK _ _ fun nx => ?_; clear hK K; try clear kk
      refine awp_seq ?_
      refine awp_first fun K kk hK => ?_
      simp only [go_sem]
      refine hK _ _ fun nx => ?_; clear hK K; try clear kk
      obtain ⟨e0, f0, hh⟩ := bind_ex hh
      obtain ⟨hlen0, f0⟩ := chk_some f0
      refine awp_fragE (CutTo (fun s => ∃ d_10, d_10 = e0 ∧ ∃ (i_11 : Int) (v_12 : Bool) (nx : Nat) (g1 : Nat), s = ⟨[(1, .box 1 g1 0), (3, .int .i64 d_10), (4, .int .i64 i_11), (12, .bool v_12)], [(1, g1, .var 28 [.str n_1.Kind, .str n_1.Text, .list 1 (n_1.Marks.map PV.str), .list 2 (n_1.Attrs.map api_Attr.pv), .list 5 (n_1.Kids.map api_Node.pv)])], nx⟩))
        (fun i s => False)
        (fun s => False) ?_ ?_ ?_ ?_
      · refine awp_block ?_
        refine awp_loopJ fun I hI => ?_
        have key : ∀ (suf pre : List api_Node) (i_5 : Int) (d_4 : Int), n_1.Kids = pre ++ suf → i_5 = (pre.length : Int) → diptychref1_Depth_l0 (diptychref1_Depth_k kr) suf i_5 d_4 = some e0 → ∀ (nx : Nat) (g1 : Nat), I ⟨[(1, .box 1 g1 0), (3, .int .i64 d_4), (4, .int .i64 i_5)], [(1, g1, .var 28 [.str n_1.Kind, .str n_1.Text, .list 1 (n_1.Marks.map PV.str), .list 2 (n_1.Attrs.map api_Attr.pv), .list 5 (n_1.Kids.map api_Node.pv)])], nx⟩ := by
          intro suf
          induction suf with
          | nil =>
            intro pre i_5 d_4 hsplit hidx hh nx g1
            rw [diptychref1_Depth_l0] at hh
            refine hI _ ?_
            have h8 := walk_nil hsplit hidx
            refine awp_seq ?_
            refine awp_first fun K kk hK => ?_
            simp only [go_sem]
            refine hK _ _ fun nx => ?_; clear hK K; try clear kk
            refine awp_false (by first | exact congrArg PV.bool h8 | rfl) ?_
            refine awp_exit ?_; refine nmx ?_
            refine fragN ?_
            refine cut_id ?_
            refine ⟨_, (Option.some.inj hh), ?_⟩
            first | exact ⟨_, _, _, _, rfl⟩ | (simp only [api_Attr.pv_eq, api_Node.pv_eq, step_Step.pv_eq, diff_change.pv_eq, diptychref11_Step.pv_eq, pvL, List.map_cons, List.map_nil, List.map_append, rune1]; exact ⟨_, _, _, _, rfl⟩) | (simp only [api_Attr.pv_eq, api_Node.pv_eq, step_Step.pv_eq, diff_change.pv_eq, diptychref11_Step.pv_eq, pvL, List.map_cons, List.map_nil, List.map_append, rune1, h1, h8]; exact ⟨_, _, _, _, rfl⟩)
          | cons y_8 suf ih =>
            intro pre i_5 d_4 hsplit hidx hh nx g1
            rw [diptychref1_Depth_l0] at hh
            refine hI _ ?_
            obtain ⟨hl0a, hl0b, hl0d, hl0w, h8⟩ := walk_cons (f := api_Node.pv) hsplit hidx hlen0
            refine awp_seq ?_
            refine awp_first fun K kk hK => ?_
            simp only [go_sem]
            refine hK _ _ fun nx => ?_; clear hK K; try clear kk
            refine awp_true (by first | exact congrArg PV.bool h8 | rfl) ?_
            refine awp_skip ?_; refine nmx ?_
            refine awp_seq ?_
            refine awp_block ?_
            obtain ⟨depth_9, h9, hh⟩ := bind_ex hh
            refine awp_region fun K kk hK => ?_
            simp only [go_sem, hl0a, hl0b, hl0d, hl0w]
            refine step_call2 (ih_diptychref1_Depth _ _ h9) (by (try simp only [go_sem, hl0a, hl0b, hl0d, hl0w]) <;> exact wkl) (by rfl) (by rfl) ?_
            simp only [go_sem, hl0a, hl0b, hl0d, hl0w]
            refine hK _ _ fun nx => ?_; clear hK K; try clear kk
            refine nmx ?_
            refine awp_region fun K kk hK => ?_
            simp only [go_sem, hl0a, hl0b, hl0d, hl0w]
            refine hK _ _ fun nx => ?_; clear hK K; try clear kk
            refine nmx ?_
            have ih' := ih (pre ++ [y_8]) (i_5 + 1) _ (by rw [hsplit]; simp) (by simp [hidx]) hh nx
            refine cut_id ?_
            first | exact ih' _ | (simp only [api_Attr.pv_eq, api_Node.pv_eq, step_Step.pv_eq, diff_change.pv_eq, diptychref11_Step.pv_eq, pvL, List.map_cons, List.map_nil, List.map_append, rune1] at ih' ⊢; exact ih' _) | (simp only [api_Attr.pv_eq, api_Node.pv_eq, step_Step.pv_eq, diff_change.pv_eq, diptychref11_Step.pv_eq, pvL, List.map_cons, List.map_nil, List.map_append, rune1, h1, h8] at ih' ⊢; exact ih' _)
        exact key n_1.Kids [] _ _ rfl rfl f0 _ _
      · rintro s ⟨t, hless, d_10, rfl, i_11, v_12, nx, g1, rfl⟩
        try dsimp only at hh
        refine nmy ?_
        first | (refine cut_less hless ?_; try refine cut_awp ?_) | refine frag_less hless ?_ | refine body_less hless ?_
        refine awp_first fun K kk hK => ?_
        simp only [go_sem]
        refine hK _ _ fun nx => ?_; clear hK K; try clear kk
        refine awp_ret ?_; refine nmx ?_
        obtain hR := Option.some.inj hh
        subst hR
        exact ret_p2
      · intro i s h; exact h.elim
      · intro s h; exact h.elim
theorem diptychref1_Depth_ok (n_1 : api_Node) (R : Int) (hh : diptychref1_Depth n_1 = some R) : PC Tryd.prog 69 [.agg [.str n_1.Kind, .str n_1.Text, .list 1 (n_1.Marks.map PV.str), .list 2 (n_1.Attrs.map api_Attr.pv), .list 5 (n_1.Kids.map api_Node.pv)]] (.int .i64 R) := by
  rw [diptychref1_Depth] at hh
  obtain ⟨kr, hh⟩ := lim_some hh
  exact (diptychref1_Depth_grp kr) _ _ hh
theorem diptychref1_runes_ok (s_1 : Str) (R : ((List Int) × Bool)) (hh : diptychref1_runes s_1 = some R) : PC Tryd.prog 111 [.str s_1] (.tup [.list 1 (R.1.map (PV.int .i32)), .bool R.2]) := by
  rw [diptychref1_runes] at hh
  refine start_diptychref1_runes rfl ?_
  refine awp_first fun K kk hK => ?_
  simp only [go_sem]
  refine hK _ _ fun nx => ?_; clear hK K; try clear kk
  refine awp_first fun K kk hK => ?_
  simp only [go_sem]
  refine hK _ _ fun nx => ?_; clear hK K; try clear kk
  refine awp_first fun K kk hK => ?_
  simp only [go_sem]
  refine hK _ _ fun nx => ?_; clear hK K; try clear kk
  refine awp_ret ?_; refine nmx ?_
  obtain hR := Option.some.inj hh
  subst hR
  exact ret_p2
theorem diptychref1_formed_ok (s_1 : Str) (R : Bool) (hh : diptychref1_formed s_1 = some R) : PC Tryd.prog 107 [.str s_1] (.bool R) := by
  rw [diptychref1_formed] at hh
  refine start_diptychref1_formed rfl ?_
  refine awp_first fun K kk hK => ?_
  simp only [go_sem]
  refine hK _ _ fun nx => ?_; clear hK K; try clear kk
  obtain ⟨⟨r_2, r_3⟩, h1, hh⟩ := bind_ex hh
  dsimp only at hh
  refine awp_first fun K kk hK => ?_
  simp only [go_sem]
  refine step_call2 (diptychref1_runes_ok _ _ h1) (by (try simp only [go_sem]) <;> exact wkl) (by rfl) (by rfl) ?_
  simp only [go_sem]
  refine hK _ _ fun nx => ?_; clear hK K; try clear kk
  refine awp_first fun K kk hK => ?_
  simp only [go_sem]
  refine hK _ _ fun nx => ?_; clear hK K; try clear kk
  refine awp_ret ?_; refine nmx ?_
  obtain hR := Option.some.inj hh
  subst hR
  exact ret_p2
theorem diptychref1_Name_ok (s_1 : Str) (R : Bool) (hh : diptychref1_Name s_1 = some R) : PC Tryd.prog 110 [.str s_1] (.bool R) := by
  rw [diptychref1_Name] at hh
  refine start_diptychref1_Name rfl ?_
  refine awp_first fun K kk hK => ?_
  simp only [go_sem]
  refine hK _ _ fun nx => ?_; clear hK K; try clear kk
  refine awp_seq ?_
  refine awp_first fun K kk hK => ?_
  simp only [go_sem]
  refine hK _ _ fun nx => ?_; clear hK K; try clear kk
  obtain ⟨e0, f0, hh⟩ := bind_ex hh
  refine awp_fragE (CutTo (fun s => .inr () = e0 ∧ ∃ (i_4 : Int) (v_5 : Bool) (nx : Nat), s = ⟨[(0, .str s_1), (3, .int .i64 i_4), (7, .bool v_5)], [], nx⟩))
    (fun i s => False)
    (fun s => ∃ res_3, .inl res_3 = e0 ∧ bodyR Tryd.prog [.tmp 2] (.bool res_3) [] .ret s) ?_ ?_ ?_ ?_
  · refine awp_block ?_
    refine awp_loopJ fun I hI => ?_
    obtain ⟨k, f0⟩ := lim_some f0
    have key : ∀ (k : Nat) (i_2 : Int), diptychref1_Name_l0 s_1 k i_2 = some e0 → ∀ (nx : Nat), I ⟨[(0, .str s_1), (3, .int .i64 i_2)], [], nx⟩ := by
      intro k
      induction k with
      | zero => intro i_2 hh; rw [diptychref1_Name_l0] at hh; cases hh
      | succ k ih =>
        intro i_2 hh nx
        rw [diptychref1_Name_l0] at hh
        refine hI _ ?_
        refine awp_seq ?_
        refine awp_first fun K kk hK => ?_
        simp only [go_sem]
        refine hK _ _ fun nx => ?_; clear hK K; try clear kk
        by_cases h6 : (decide (i_2 < (s_1.length : Int))) = true
        · rw [if_pos h6] at hh
          refine awp_true (by first | exact congrArg PV.bool h6 | rfl) ?_
          refine awp_skip ?_; refine nmx ?_
          refine awp_seq ?_
          refine awp_block ?_
          obtain ⟨h7, hh⟩ := chk_some hh
          by_cases h8 : (decide (((s_1.getD i_2.toNat 0).toNat : Int) < (97 : Int))) = true
          · rw [if_pos h8] at hh
            refine awp_first fun K kk hK => ?_
            simp only [go_sem, h7.1, h7.2, h8, of_decide_eq_true h8, h8, of_decide_eq_true h8]
            (repeat refine sd ?_)
            refine hK _ _ fun nx => ?_; clear hK K; try clear kk
            refine awp_true rfl ?_
            refine awp_first fun K kk hK => ?_
            simp only [go_sem]
            refine hK _ _ fun nx => ?_; clear hK K; try clear kk
            refine awp_ret ?_; refine nmx ?_
            refine fragR ⟨_, (Option.some.inj hh), ?_⟩
            exact ret_p2
          · rw [if_neg h8] at hh
            replace h8 := Bool.eq_false_iff.mpr h8
            obtain ⟨h9, hh⟩ := chk_some hh
            refine awp_first fun K kk hK => ?_
            simp only [go_sem, h7.1, h7.2, h8, of_decide_eq_false h8, h9.1, h9.2, h8, of_decide_eq_false h8]
            (repeat refine sd ?_)
            refine hK _ _ fun nx => ?_; clear hK K; try clear kk
            by_cases h10 : (decide (((s_1.getD i_2.toNat 0).toNat : Int) > (122 : Int))) = true
            · rw [if_pos h10] at hh
              refine awp_true (by first | exact congrArg PV.bool h10 | rfl) ?_
              refine awp_first fun K kk hK => ?_
              simp only [go_sem]
              refine hK _ _ fun nx => ?_; clear hK K; try clear kk
              refine awp_ret ?_; refine nmx ?_
              refine fragR ⟨_, (Option.some.inj hh), ?_⟩
              exact ret_p2
            · rw [if_neg h10] at hh
              replace h10 := Bool.eq_false_iff.mpr h10
              refine awp_false (by first | exact congrArg PV.bool h10 | rfl) ?_
              refine awp_skip ?_; refine nmx ?_
              refine awp_region fun K kk hK => ?_
              simp only [go_sem]
              refine hK _ _ fun nx => ?_; clear hK K; try clear kk
              refine nmx ?_
              have ih' := ih _ hh nx
              refine cut_id ?_
              first | exact ih' | (simp only [api_Attr.pv_eq, api_Node.pv_eq, step_Step.pv_eq, diff_change.pv_eq, diptychref11_Step.pv_eq, pvL, List.map_cons, List.map_nil, List.map_append, rune1] at ih' ⊢; exact ih') | (simp only [api_Attr.pv_eq, api_Node.pv_eq, step_Step.pv_eq, diff_change.pv_eq, diptychref11_Step.pv_eq, pvL, List.map_cons, List.map_nil, List.map_append, rune1, h10, h6, h8] at ih' ⊢; exact ih')
        · rw [if_neg h6] at hh
          replace h6 := Bool.eq_false_iff.mpr h6
          refine awp_false (by first | exact congrArg PV.bool h6 | rfl) ?_
          refine awp_exit ?_; refine nmx ?_
          refine fragN ?_
          refine cut_id ?_
          refine ⟨(Option.some.inj hh), ?_⟩
          first | exact ⟨_, _, _, rfl⟩ | (simp only [api_Attr.pv_eq, api_Node.pv_eq, step_Step.pv_eq, diff_change.pv_eq, diptychref11_Step.pv_eq, pvL, List.map_cons, List.map_nil, List.map_append, rune1]; exact ⟨_, _, _, rfl⟩) | (simp only [api_Attr.pv_eq, api_Node.pv_eq, step_Step.pv_eq, diff_change.pv_eq, diptychref11_Step.pv_eq, pvL, List.map_cons, List.map_nil, List.map_append, rune1, h6]; exact ⟨_, _, _, rfl⟩)
    exact key _ _ f0 _
  · rintro s ⟨t, hless, rfl, i_4, v_5, nx, rfl⟩
    try dsimp only at hh
    refine nmy ?_
    first | (refine cut_less hless ?_; try refine cut_awp ?_) | refine frag_less hless ?_ | refine body_less hless ?_
    by_cases h11 : (decide ((s_1.length : Int) ≥ (1 : Int))) = true
    · rw [if_pos h11] at hh
      by_cases h12 : (decide ((s_1.length : Int) ≤ (8 : Int))) = true
      · rw [if_pos h12] at hh
        refine awp_first fun K kk hK => ?_
        simp only [go_sem, h11, of_decide_eq_true h11, h11, of_decide_eq_true h11, h12, of_decide_eq_true h12, h12, of_decide_eq_true h12]
        (repeat refine sd ?_)
        refine hK _ _ fun nx => ?_; clear hK K; try clear kk
        refine awp_ret ?_; refine nmx ?_
        obtain hR := Option.some.inj hh
        subst hR
        exact ret_p2
      · rw [if_neg h12] at hh
        replace h12 := Bool.eq_false_iff.mpr h12
        refine awp_first fun K kk hK => ?_
        simp only [go_sem, h11, of_decide_eq_true h11, h11, of_decide_eq_true h11, h12, of_decide_eq_false h12, h12, of_decide_eq_false h12]
        (repeat refine sd ?_)
        refine hK _ _ fun nx => ?_; clear hK K; try clear kk
        refine awp_ret ?_; refine nmx ?_
        obtain hR := Option.some.inj hh
        subst hR
        exact ret_p2
    · rw [if_neg h11] at hh
      replace h11 := Bool.eq_false_iff.mpr h11
      refine awp_first fun K kk hK => ?_
      simp only [go_sem, h11, of_decide_eq_false h11, h11, of_decide_eq_false h11]
      (repeat refine sd ?_)
      refine hK _ _ fun nx => ?_; clear hK K; try clear kk
      refine awp_ret ?_; refine nmx ?_
      obtain hR := Option.some.inj hh
      subst hR
      exact ret_p2
  · intro i s h; exact h.elim
  · rintro s ⟨res_3, rfl, hb⟩
    try dsimp only at hh
    obtain hR := Option.some.inj hh
    subst hR
    refine nmx ?_
    exact hb

end Go.Proofs.YtblielhogcnnkaaDoor
