/- What the functions answer, the program answers (3). -/
import Derived.Test.YtclohbgnaopjfaaGreatDoorAgC
import Derived.Test.YtclohbgnaopjfaaGreatDoorAgF
import Derived.Test.YtclohbgnaopjfaaGreatDoorAgK2
namespace Go.Proofs.YtclohbgnaopjfaaGreatDoor
set_option linter.unusedSimpArgs false
set_option linter.unusedVariables false
open Go
set_option maxRecDepth 100000

theorem diptychlaw12_few_ok (l_1 : (List step_Step)) (R : Bool) (hh : diptychlaw12_few l_1 = some R) : PC Tryz.prog 24 [.list 6 (l_1.map step_Step.pv)] (.bool R) := by
  rw [diptychlaw12_few] at hh
  refine start_diptychlaw12_few rfl ?_
  refine awp_first fun K kk hK => ?_
  simp only [go_sem]
  refine hK _ _ fun nx => ?_; clear hK K; try clear kk
  refine awp_seq ?_
  refine awp_first fun K kk hK => ?_
  simp only [go_sem]
  refine hK _ _ fun nx => ?_; clear hK K; try clear kk
  obtain ⟨e0, f0, hh⟩ := bind_ex hh
  obtain ⟨hlen0, f0⟩ := chk_some f0
  refine awp_fragE (CutTo (fun s => .inr () = e0 ∧ ∃ (i_10 : Int) (v_11 : Bool) (nx : Nat), s = ⟨[(0, .list 6 (l_1.map step_Step.pv)), (3, .int .i64 i_10), (7, .bool v_11)], [], nx⟩))
    (fun i s => False)
    (fun s => ∃ res_9, .inl res_9 = e0 ∧ bodyR Tryz.prog [.tmp 2] (.bool res_9) [] .ret s) ?_ ?_ ?_ ?_
  · refine awp_block ?_
    refine awp_loopJ fun I hI => ?_
    have key : ∀ (suf pre : List step_Step) (i_4 : Int), l_1 = pre ++ suf → i_4 = (pre.length : Int) → diptychlaw12_few_l0 suf i_4 = some e0 → ∀ (nx : Nat), I ⟨[(0, .list 6 (l_1.map step_Step.pv)), (3, .int .i64 i_4)], [], nx⟩ := by
      intro suf
      induction suf with
      | nil =>
        intro pre i_4 hsplit hidx hh nx
        rw [diptychlaw12_few_l0] at hh
        refine hI _ ?_
        have h13 := walk_nil hsplit hidx
        refine awp_seq ?_
        refine awp_first fun K kk hK => ?_
        simp only [go_sem]
        refine hK _ _ fun nx => ?_; clear hK K; try clear kk
        refine awp_false (by first | exact congrArg PV.bool h13 | rfl) ?_
        refine awp_exit ?_; refine nmx ?_
        refine fragN ?_
        refine cut_id ?_
        refine ⟨(Option.some.inj hh), ?_⟩
        first | exact ⟨_, _, _, rfl⟩ | (simp only [api_Attr.pv_eq, api_Node.pv_eq, step_Step.pv_eq, diptychref11_Step.pv_eq, pvL, List.map_cons, List.map_nil, List.map_append, rune1]; exact ⟨_, _, _, rfl⟩) | (simp only [api_Attr.pv_eq, api_Node.pv_eq, step_Step.pv_eq, diptychref11_Step.pv_eq, pvL, List.map_cons, List.map_nil, List.map_append, rune1, h13]; exact ⟨_, _, _, rfl⟩)
      | cons y_7 suf ih =>
        intro pre i_4 hsplit hidx hh nx
        rw [diptychlaw12_few_l0] at hh
        refine hI _ ?_
        obtain ⟨hl0a, hl0b, hl0d, hl0w, h13⟩ := walk_cons (f := step_Step.pv) hsplit hidx hlen0
        refine awp_seq ?_
        refine awp_first fun K kk hK => ?_
        simp only [go_sem]
        refine hK _ _ fun nx => ?_; clear hK K; try clear kk
        refine awp_true (by first | exact congrArg PV.bool h13 | rfl) ?_
        refine awp_skip ?_; refine nmx ?_
        refine awp_seq ?_
        refine awp_block ?_
        obtain ⟨light_8, h14, hh⟩ := bind_ex hh
        by_cases h15 : (decide (light_8 < (0 : Int))) = true
        · rw [if_pos h15] at hh
          refine awp_first fun K kk hK => ?_
          simp only [go_sem, h15, of_decide_eq_true h15, h15, of_decide_eq_true h15, hl0a, hl0b, hl0d, hl0w]
          (repeat refine sd ?_)
          refine step_call2 (diptychlaw12_light_ok _ _ _ h14) (by (try simp only [go_sem, h15, of_decide_eq_true h15, h15, of_decide_eq_true h15, hl0a, hl0b, hl0d, hl0w]) <;> exact wkl) (by rfl) (by rfl) ?_
          simp only [go_sem, h15, of_decide_eq_true h15, h15, of_decide_eq_true h15, hl0a, hl0b, hl0d, hl0w]
          (repeat refine sd ?_)
          refine hK _ _ fun nx => ?_; clear hK K; try clear kk
          refine awp_true rfl ?_
          refine awp_first fun K kk hK => ?_
          simp only [go_sem, hl0a, hl0b, hl0d, hl0w]
          refine hK _ _ fun nx => ?_; clear hK K; try clear kk
          refine awp_ret ?_; refine nmx ?_
          refine fragR ⟨_, (Option.some.inj hh), ?_⟩
          exact ret_p2
        · rw [if_neg h15] at hh
          replace h15 := Bool.eq_false_iff.mpr h15
          by_cases h16 : (decide ((y_7.Name.length : Int) > (100 : Int))) = true
          · rw [if_pos h16] at hh
            refine awp_first fun K kk hK => ?_
            simp only [go_sem, h15, of_decide_eq_false h15, h15, of_decide_eq_false h15, h16, of_decide_eq_true h16, h16, of_decide_eq_true h16, hl0a, hl0b, hl0d, hl0w]
            (repeat refine sd ?_)
            refine step_call2 (diptychlaw12_light_ok _ _ _ h14) (by (try simp only [go_sem, h15, of_decide_eq_false h15, h15, of_decide_eq_false h15, h16, of_decide_eq_true h16, h16, of_decide_eq_true h16, hl0a, hl0b, hl0d, hl0w]) <;> exact wkl) (by rfl) (by rfl) ?_
            simp only [go_sem, h15, of_decide_eq_false h15, h15, of_decide_eq_false h15, h16, of_decide_eq_true h16, h16, of_decide_eq_true h16, hl0a, hl0b, hl0d, hl0w]
            (repeat refine sd ?_)
            refine hK _ _ fun nx => ?_; clear hK K; try clear kk
            refine awp_true rfl ?_
            refine awp_first fun K kk hK => ?_
            simp only [go_sem, hl0a, hl0b, hl0d, hl0w]
            refine hK _ _ fun nx => ?_; clear hK K; try clear kk
            refine awp_ret ?_; refine nmx ?_
            refine fragR ⟨_, (Option.some.inj hh), ?_⟩
            exact ret_p2
          · rw [if_neg h16] at hh
            replace h16 := Bool.eq_false_iff.mpr h16
            refine awp_first fun K kk hK => ?_
            simp only [go_sem, h15, of_decide_eq_false h15, h15, of_decide_eq_false h15, h16, of_decide_eq_false h16, h16, of_decide_eq_false h16, hl0a, hl0b, hl0d, hl0w]
            (repeat refine sd ?_)
            refine step_call2 (diptychlaw12_light_ok _ _ _ h14) (by (try simp only [go_sem, h15, of_decide_eq_false h15, h15, of_decide_eq_false h15, h16, of_decide_eq_false h16, h16, of_decide_eq_false h16, hl0a, hl0b, hl0d, hl0w]) <;> exact wkl) (by rfl) (by rfl) ?_
            simp only [go_sem, h15, of_decide_eq_false h15, h15, of_decide_eq_false h15, h16, of_decide_eq_false h16, h16, of_decide_eq_false h16, hl0a, hl0b, hl0d, hl0w]
            (repeat refine sd ?_)
            refine hK _ _ fun nx => ?_; clear hK K; try clear kk
            by_cases h17 : (decide ((y_7.Value.length : Int) > (300 : Int))) = true
            · rw [if_pos h17] at hh
              refine awp_true (by first | exact congrArg PV.bool h17 | rfl) ?_
              refine awp_first fun K kk hK => ?_
              simp only [go_sem, hl0a, hl0b, hl0d, hl0w]
              refine hK _ _ fun nx => ?_; clear hK K; try clear kk
              refine awp_ret ?_; refine nmx ?_
              refine fragR ⟨_, (Option.some.inj hh), ?_⟩
              exact ret_p2
            · rw [if_neg h17] at hh
              replace h17 := Bool.eq_false_iff.mpr h17
              refine awp_false (by first | exact congrArg PV.bool h17 | rfl) ?_
              refine awp_skip ?_; refine nmx ?_
              refine awp_region fun K kk hK => ?_
              simp only [go_sem, hl0a, hl0b, hl0d, hl0w]
              refine hK _ _ fun nx => ?_; clear hK K; try clear kk
              refine nmx ?_
              have ih' := ih (pre ++ [y_7]) (i_4 + 1) (by rw [hsplit]; simp) (by simp [hidx]) hh nx
              refine cut_id ?_
              first | exact ih' | (simp only [api_Attr.pv_eq, api_Node.pv_eq, step_Step.pv_eq, diptychref11_Step.pv_eq, pvL, List.map_cons, List.map_nil, List.map_append, rune1] at ih' ⊢; exact ih') | (simp only [api_Attr.pv_eq, api_Node.pv_eq, step_Step.pv_eq, diptychref11_Step.pv_eq, pvL, List.map_cons, List.map_nil, List.map_append, rune1, h13, h15, h16, h17] at ih' ⊢; exact ih')
    exact key l_1 [] _ rfl rfl f0 _
  · rintro s ⟨t, hless, rfl, i_10, v_11, nx, rfl⟩
    try dsimp only at hh
    refine nmy ?_
    first | (refine cut_less hless ?_; try refine cut_awp ?_) | refine frag_less hless ?_ | refine body_less hless ?_
    refine awp_first fun K kk hK => ?_
    simp only [go_sem]
    refine hK _ _ fun nx => ?_; clear hK K; try clear kk
    refine awp_ret ?_; refine nmx ?_
    obtain hR := Option.some.inj hh
    subst hR
    exact ret_p2
  · intro i s h; exact h.elim
  · rintro s ⟨res_9, rfl, hb⟩
    try dsimp only at hh
    obtain hR := Option.some.inj hh
    subst hR
    refine nmx ?_
    exact hb
theorem diptychref1_sameNames_ok (a_1 : (List Str)) (b_2 : (List Str)) (R : Bool) (hh : diptychref1_sameNames a_1 b_2 = some R) : PC Tryz.prog 59 [.list 1 (a_1.map PV.str), .list 1 (b_2.map PV.str)] (.bool R) := by
  rw [diptychref1_sameNames] at hh
  refine start_diptychref1_sameNames rfl ?_
  refine awp_first fun K kk hK => ?_
  simp only [go_sem]
  refine hK _ _ fun nx => ?_; clear hK K; try clear kk
  refine awp_seq ?_
  refine awp_first fun K kk hK => ?_
  simp only [go_sem]
  refine hK _ _ fun nx => ?_; clear hK K; try clear kk
  by_cases h1 : ((a_1.length : Int) != (b_2.length : Int)) = true
  · rw [if_pos h1] at hh
    refine awp_true (by first | exact congrArg PV.bool h1 | rfl) ?_
    refine awp_first fun K kk hK => ?_
    simp only [go_sem]
    refine hK _ _ fun nx => ?_; clear hK K; try clear kk
    refine awp_ret ?_; refine nmx ?_
    obtain hR := Option.some.inj hh
    subst hR
    exact ret_p2
  · rw [if_neg h1] at hh
    replace h1 := Bool.eq_false_iff.mpr h1
    refine awp_false (by first | exact congrArg PV.bool h1 | rfl) ?_
    refine awp_skip ?_; refine nmx ?_
    refine awp_seq ?_
    refine awp_first fun K kk hK => ?_
    simp only [go_sem]
    refine hK _ _ fun nx => ?_; clear hK K; try clear kk
    obtain ⟨e0, f0, hh⟩ := bind_ex hh
    obtain ⟨hlen0, f0⟩ := chk_some f0
    refine awp_fragE (CutTo (fun s => .inr () = e0 ∧ ∃ (i_11 : Int) (v_12 : Bool) (nx : Nat), s = ⟨[(0, .list 1 (a_1.map PV.str)), (1, .list 1 (b_2.map PV.str)), (5, .int .i64 i_11), (14, .bool v_12)], [], nx⟩))
      (fun i s => False)
      (fun s => ∃ res_10, .inl res_10 = e0 ∧ bodyR Tryz.prog [.tmp 4] (.bool res_10) [] .ret s) ?_ ?_ ?_ ?_
    · refine awp_block ?_
      refine awp_loopJ fun I hI => ?_
      have key : ∀ (suf pre : List Str) (i_5 : Int), a_1 = pre ++ suf → i_5 = (pre.length : Int) → diptychref1_sameNames_l0 b_2 suf i_5 = some e0 → ∀ (nx : Nat), I ⟨[(0, .list 1 (a_1.map PV.str)), (1, .list 1 (b_2.map PV.str)), (5, .int .i64 i_5)], [], nx⟩ := by
        intro suf
        induction suf with
        | nil =>
          intro pre i_5 hsplit hidx hh nx
          rw [diptychref1_sameNames_l0] at hh
          refine hI _ ?_
          have h10 := walk_nil hsplit hidx
          refine awp_seq ?_
          refine awp_first fun K kk hK => ?_
          simp only [go_sem]
          refine hK _ _ fun nx => ?_; clear hK K; try clear kk
          refine awp_false (by first | exact congrArg PV.bool h10 | rfl) ?_
          refine awp_exit ?_; refine nmx ?_
          refine fragN ?_
          refine cut_id ?_
          refine ⟨(Option.some.inj hh), ?_⟩
          first | exact ⟨_, _, _, rfl⟩ | (simp only [api_Attr.pv_eq, api_Node.pv_eq, step_Step.pv_eq, diptychref11_Step.pv_eq, pvL, List.map_cons, List.map_nil, List.map_append, rune1]; exact ⟨_, _, _, rfl⟩) | (simp only [api_Attr.pv_eq, api_Node.pv_eq, step_Step.pv_eq, diptychref11_Step.pv_eq, pvL, List.map_cons, List.map_nil, List.map_append, rune1, h1, h10]; exact ⟨_, _, _, rfl⟩)
        | cons y_8 suf ih =>
          intro pre i_5 hsplit hidx hh nx
          rw [diptychref1_sameNames_l0] at hh
          refine hI _ ?_
          obtain ⟨hl0a, hl0b, hl0d, hl0w, h10⟩ := walk_cons (f := PV.str) hsplit hidx hlen0
          refine awp_seq ?_
          refine awp_first fun K kk hK => ?_
          simp only [go_sem]
          refine hK _ _ fun nx => ?_; clear hK K; try clear kk
          refine awp_true (by first | exact congrArg PV.bool h10 | rfl) ?_
          refine awp_skip ?_; refine nmx ?_
          refine awp_seq ?_
          refine awp_block ?_
          obtain ⟨x_9, h11, hh⟩ := bind_ex hh
          obtain ⟨h11a, h11b, h11c⟩ := rd_some h11
          have h11d := rd_get (f := PV.str) h11c
          have h11f := rd_more (f := PV.str) h11c
          try simp only [Int.toNat_natCast, Int.reduceToNat] at h11d h11f
          refine awp_first fun K kk hK => ?_
          simp only [go_sem, h11a, h11b, h11d, h11f.1, h11f.2, hl0a, hl0b, hl0d, hl0w]
          (repeat refine sd ?_)
          refine hK _ _ fun nx => ?_; clear hK K; try clear kk
          by_cases h12 : (!(y_8 == x_9)) = true
          · rw [if_pos h12] at hh
            refine awp_true (by first | exact congrArg PV.bool h12 | rfl) ?_
            refine awp_first fun K kk hK => ?_
            simp only [go_sem, hl0a, hl0b, hl0d, hl0w]
            refine hK _ _ fun nx => ?_; clear hK K; try clear kk
            refine awp_ret ?_; refine nmx ?_
            refine fragR ⟨_, (Option.some.inj hh), ?_⟩
            exact ret_p2
          · rw [if_neg h12] at hh
            replace h12 := Bool.eq_false_iff.mpr h12
            refine awp_false (by first | exact congrArg PV.bool h12 | rfl) ?_
            refine awp_skip ?_; refine nmx ?_
            refine awp_region fun K kk hK => ?_
            simp only [go_sem, hl0a, hl0b, hl0d, hl0w]
            refine hK _ _ fun nx => ?_; clear hK K; try clear kk
            refine nmx ?_
            have ih' := ih (pre ++ [y_8]) (i_5 + 1) (by rw [hsplit]; simp) (by simp [hidx]) hh nx
            refine cut_id ?_
            first | exact ih' | (simp only [api_Attr.pv_eq, api_Node.pv_eq, step_Step.pv_eq, diptychref11_Step.pv_eq, pvL, List.map_cons, List.map_nil, List.map_append, rune1] at ih' ⊢; exact ih') | (simp only [api_Attr.pv_eq, api_Node.pv_eq, step_Step.pv_eq, diptychref11_Step.pv_eq, pvL, List.map_cons, List.map_nil, List.map_append, rune1, h1, h10, h12] at ih' ⊢; exact ih')
      exact key a_1 [] _ rfl rfl f0 _
    · rintro s ⟨t, hless, rfl, i_11, v_12, nx, rfl⟩
      try dsimp only at hh
      refine nmy ?_
      first | (refine cut_less hless ?_; try refine cut_awp ?_) | refine frag_less hless ?_ | refine body_less hless ?_
      refine awp_first fun K kk hK => ?_
      simp only [go_sem]
      refine hK _ _ fun nx => ?_; clear hK K; try clear kk
      refine awp_ret ?_; refine nmx ?_
      obtain hR := Option.some.inj hh
      subst hR
      exact ret_p2
    · intro i s h; exact h.elim
    · rintro s ⟨res_10, rfl, hb⟩
      try dsimp only at hh
      obtain hR := Option.some.inj hh
      subst hR
      refine nmx ?_
      exact hb
theorem diptychref1_Same_grp : ∀ kr : Nat, (∀ (a_1 : api_Node) (b_2 : api_Node) (R : Bool), diptychref1_Same_k kr a_1 b_2 = some R → PC Tryz.prog 21 [.agg [.str a_1.Kind, .str a_1.Text, .list 1 (a_1.Marks.map PV.str), .list 2 (a_1.Attrs.map api_Attr.pv), .list 5 (a_1.Kids.map api_Node.pv)], .agg [.str b_2.Kind, .str b_2.Text, .list 1 (b_2.Marks.map PV.str), .list 2 (b_2.Attrs.map api_Attr.pv), .list 5 (b_2.Kids.map api_Node.pv)]] (.bool R)) ∧
    (∀ (a_1 : (List api_Node)) (b_2 : (List api_Node)) (R : Bool), diptychref1_SameAll_k kr a_1 b_2 = some R → PC Tryz.prog 54 [.list 5 (a_1.map api_Node.pv), .list 5 (b_2.map api_Node.pv)] (.bool R)) := by
  intro kr
  induction kr with
  | zero => exact ⟨(by intro a_1 b_2 R hh; rw [diptychref1_Same_k] at hh; cases hh), (by intro a_1 b_2 R hh; rw [diptychref1_SameAll_k] at hh; cases hh)⟩
  | succ kr ih =>
    obtain ⟨ih_diptychref1_Same, ih_diptychref1_SameAll⟩ := ih
    refine ⟨?_, ?_⟩
    · intro a_1 b_2 R hh
      rw [diptychref1_Same_k] at hh
      refine start_diptychref1_Same rfl ?_
      refine awp_first fun K kk hK => ?_
      simp only [go_sem]
      refine hK _ _ fun nx => ?_; clear hK K; try clear kk
      refine awp_seq ?_
      by_cases h1 : (!(a_1.Kind == b_2.Kind)) = true
      · rw [if_pos h1] at hh
        refine awp_first fun K kk hK => ?_
        simp only [go_sem, h1, h1]
        (repeat refine sd ?_)
        refine hK _ _ fun nx => ?_; clear hK K; try clear kk
        refine awp_true rfl ?_
        refine awp_first fun K kk hK => ?_
        simp only [go_sem]
        refine hK _ _ fun nx => ?_; clear hK K; try clear kk
        refine awp_ret ?_; refine nmx ?_
        obtain hR := Option.some.inj hh
        subst hR
        exact ret_p2
      · rw [if_neg h1] at hh
        replace h1 := Bool.eq_false_iff.mpr h1
        by_cases h2 : (!(a_1.Text == b_2.Text)) = true
        · rw [if_pos h2] at hh
          refine awp_first fun K kk hK => ?_
          simp only [go_sem, h1, h1, h2, h2]
          (repeat refine sd ?_)
          refine hK _ _ fun nx => ?_; clear hK K; try clear kk
          refine awp_true rfl ?_
          refine awp_first fun K kk hK => ?_
          simp only [go_sem]
          refine hK _ _ fun nx => ?_; clear hK K; try clear kk
          refine awp_ret ?_; refine nmx ?_
          obtain hR := Option.some.inj hh
          subst hR
          exact ret_p2
        · rw [if_neg h2] at hh
          replace h2 := Bool.eq_false_iff.mpr h2
          obtain ⟨samena_3, h3, hh⟩ := bind_ex hh
          by_cases h4 : (!samena_3) = true
          · rw [if_pos h4] at hh
            refine awp_first fun K kk hK => ?_
            simp only [go_sem, h1, h1, h2, h2, h4, h4]
            (repeat refine sd ?_)
            refine step_call2 (diptychref1_sameNames_ok _ _ _ h3) (by (try simp only [go_sem, h1, h1, h2, h2, h4, h4]) <;> exact wkl) (by rfl) (by rfl) ?_
            simp only [go_sem, h1, h1, h2, h2, h4, h4]
            (repeat refine sd ?_)
            refine hK _ _ fun nx => ?_; clear hK K; try clear kk
            refine awp_true rfl ?_
            refine awp_first fun K kk hK => ?_
            simp only [go_sem]
            refine hK _ _ fun nx => ?_; clear hK K; try clear kk
            refine awp_ret ?_; refine nmx ?_
            obtain hR := Option.some.inj hh
            subst hR
            exact ret_p2
          · rw [if_neg h4] at hh
            replace h4 := Bool.eq_false_iff.mpr h4
            refine awp_first fun K kk hK => ?_
            simp only [go_sem, h1, h1, h2, h2, h4, h4]
            (repeat refine sd ?_)
            refine step_call2 (diptychref1_sameNames_ok _ _ _ h3) (by (try simp only [go_sem, h1, h1, h2, h2, h4, h4]) <;> exact wkl) (by rfl) (by rfl) ?_
            simp only [go_sem, h1, h1, h2, h2, h4, h4]
            (repeat refine sd ?_)
            refine hK _ _ fun nx => ?_; clear hK K; try clear kk
            by_cases h5 : ((a_1.Attrs.length : Int) != (b_2.Attrs.length : Int)) = true
            · rw [if_pos h5] at hh
              refine awp_true (by first | exact congrArg PV.bool h5 | rfl) ?_
              refine awp_first fun K kk hK => ?_
              simp only [go_sem]
              refine hK _ _ fun nx => ?_; clear hK K; try clear kk
              refine awp_ret ?_; refine nmx ?_
              obtain hR := Option.some.inj hh
              subst hR
              exact ret_p2
            · rw [if_neg h5] at hh
              replace h5 := Bool.eq_false_iff.mpr h5
              refine awp_false (by first | exact congrArg PV.bool h5 | rfl) ?_
              refine awp_skip ?_; refine nmx ?_
              refine awp_seq ?_
              refine awp_first fun K kk hK => ?_
              simp only [go_sem]
              refine hK _ _ fun nx => ?_; clear hK K; try clear kk
              obtain ⟨e0, f0, hh⟩ := bind_ex hh
              obtain ⟨hlen0, f0⟩ := chk_some f0
              refine awp_fragE (CutTo (fun s => .inr () = e0 ∧ ∃ (i_12 : Int) (v_13 : Bool) (nx : Nat) (g2 : Nat) (g3 : Nat), s = ⟨[(2, .box 2 g2 0), (3, .box 3 g3 0), (5, .int .i64 i_12), (39, .bool v_13)], [(2, g2, .var 28 [.str a_1.Kind, .str a_1.Text, .list 1 (a_1.Marks.map PV.str), .list 2 (a_1.Attrs.map api_Attr.pv), .list 5 (a_1.Kids.map api_Node.pv)]), (3, g3, .var 28 [.str b_2.Kind, .str b_2.Text, .list 1 (b_2.Marks.map PV.str), .list 2 (b_2.Attrs.map api_Attr.pv), .list 5 (b_2.Kids.map api_Node.pv)])], nx⟩))
                (fun i s => False)
                (fun s => ∃ res_11, .inl res_11 = e0 ∧ bodyR Tryz.prog [.tmp 4] (.bool res_11) [] .ret s) ?_ ?_ ?_ ?_
              · refine awp_block ?_
                refine awp_loopJ fun I hI => ?_
                have key : ∀ (suf pre : List api_Attr) (i_6 : Int), a_1.Attrs = pre ++ suf → i_6 = (pre.length : Int) → diptychref1_Same_l0 b_2 suf i_6 = some e0 → ∀ (nx : Nat) (g2 : Nat) (g3 : Nat), I ⟨[(2, .box 2 g2 0), (3, .box 3 g3 0), (5, .int .i64 i_6)], [(2, g2, .var 28 [.str a_1.Kind, .str a_1.Text, .list 1 (a_1.Marks.map PV.str), .list 2 (a_1.Attrs.map api_Attr.pv), .list 5 (a_1.Kids.map api_Node.pv)]), (3, g3, .var 28 [.str b_2.Kind, .str b_2.Text, .list 1 (b_2.Marks.map PV.str), .list 2 (b_2.Attrs.map api_Attr.pv), .list 5 (b_2.Kids.map api_Node.pv)])], nx⟩ := by
                  intro suf
                  induction suf with
                  | nil =>
                    intro pre i_6 hsplit hidx hh nx g2 g3
                    rw [diptychref1_Same_l0] at hh
                    refine hI _ ?_
                    have h14 := walk_nil hsplit hidx
                    refine awp_seq ?_
                    refine awp_first fun K kk hK => ?_
                    simp only [go_sem]
                    refine hK _ _ fun nx => ?_; clear hK K; try clear kk
                    refine awp_false (by first | exact congrArg PV.bool h14 | rfl) ?_
                    refine awp_exit ?_; refine nmx ?_
                    refine fragN ?_
                    refine cut_id ?_
                    refine ⟨(Option.some.inj hh), ?_⟩
                    first | exact ⟨_, _, _, _, _, rfl⟩ | (simp only [api_Attr.pv_eq, api_Node.pv_eq, step_Step.pv_eq, diptychref11_Step.pv_eq, pvL, List.map_cons, List.map_nil, List.map_append, rune1]; exact ⟨_, _, _, _, _, rfl⟩) | (simp only [api_Attr.pv_eq, api_Node.pv_eq, step_Step.pv_eq, diptychref11_Step.pv_eq, pvL, List.map_cons, List.map_nil, List.map_append, rune1, h1, h14, h2, h4, h5]; exact ⟨_, _, _, _, _, rfl⟩)
                  | cons y_9 suf ih =>
                    intro pre i_6 hsplit hidx hh nx g2 g3
                    rw [diptychref1_Same_l0] at hh
                    refine hI _ ?_
                    obtain ⟨hl0a, hl0b, hl0d, hl0w, h14⟩ := walk_cons (f := api_Attr.pv) hsplit hidx hlen0
                    refine awp_seq ?_
                    refine awp_first fun K kk hK => ?_
                    simp only [go_sem]
                    refine hK _ _ fun nx => ?_; clear hK K; try clear kk
                    refine awp_true (by first | exact congrArg PV.bool h14 | rfl) ?_
                    refine awp_skip ?_; refine nmx ?_
                    refine awp_seq ?_
                    refine awp_block ?_
                    obtain ⟨x_10, h15, hh⟩ := bind_ex hh
                    obtain ⟨h15a, h15b, h15c⟩ := rd_some h15
                    have h15d := rd_get (f := api_Attr.pv) h15c
                    have h15f := rd_more (f := api_Attr.pv) h15c
                    try simp only [Int.toNat_natCast, Int.reduceToNat] at h15d h15f
                    refine awp_first fun K kk hK => ?_
                    simp only [go_sem, h15a, h15b, h15d, h15f.1, h15f.2, hl0a, hl0b, hl0d, hl0w]
                    (repeat refine sd ?_)
                    refine hK _ _ fun nx => ?_; clear hK K; try clear kk
                    by_cases h16 : ((((y_9.Name == x_10.Name) && (y_9.Value == x_10.Value)) != true)) = true
                    · rw [if_pos h16] at hh
                      refine awp_true (by first | exact congrArg PV.bool h16 | rfl) ?_
                      refine awp_first fun K kk hK => ?_
                      simp only [go_sem, hl0a, hl0b, hl0d, hl0w]
                      refine hK _ _ fun nx => ?_; clear hK K; try clear kk
                      refine awp_ret ?_; refine nmx ?_
                      refine fragR ⟨_, (Option.some.inj hh), ?_⟩
                      exact ret_p2
                    · rw [if_neg h16] at hh
                      replace h16 := Bool.eq_false_iff.mpr h16
                      refine awp_false (by first | exact congrArg PV.bool h16 | rfl) ?_
                      refine awp_skip ?_; refine nmx ?_
                      refine awp_region fun K kk hK => ?_
                      simp only [go_sem, hl0a, hl0b, hl0d, hl0w]
                      refine hK _ _ fun nx => ?_; clear hK K; try clear kk
                      refine nmx ?_
                      have ih' := ih (pre ++ [y_9]) (i_6 + 1) (by rw [hsplit]; simp) (by simp [hidx]) hh nx
                      refine cut_id ?_
                      first | exact ih' _ _ | (simp only [api_Attr.pv_eq, api_Node.pv_eq, step_Step.pv_eq, diptychref11_Step.pv_eq, pvL, List.map_cons, List.map_nil, List.map_append, rune1] at ih' ⊢; exact ih' _ _) | (simp only [api_Attr.pv_eq, api_Node.pv_eq, step_Step.pv_eq, diptychref11_Step.pv_eq, pvL, List.map_cons, List.map_nil, List.map_append, rune1, h1, h14, h16, h2, h4, h5] at ih' ⊢; exact ih' _ _)
                exact key a_1.Attrs [] _ rfl rfl f0 _ _ _
              · rintro s ⟨t, hless, rfl, i_12, v_13, nx, g2, g3, rfl⟩
                try dsimp only at hh
                refine nmy ?_
                first | (refine cut_less hless ?_; try refine cut_awp ?_) | refine frag_less hless ?_ | refine body_less hless ?_
                obtain ⟨sameal_14, h17, hh⟩ := bind_ex hh
                refine awp_first fun K kk hK => ?_
                simp only [go_sem]
                refine step_call2 (ih_diptychref1_SameAll _ _ _ h17) (by (try simp only [go_sem]) <;> exact wkl) (by rfl) (by rfl) ?_
                simp only [go_sem]
                refine hK _ _ fun nx => ?_; clear hK K; try clear kk
                refine awp_ret ?_; refine nmx ?_
                obtain hR := Option.some.inj hh
                subst hR
                exact ret_p2
              · intro i s h; exact h.elim
              · rintro s ⟨res_11, rfl, hb⟩
                try dsimp only at hh
                obtain hR := Option.some.inj hh
                subst hR
                refine nmx ?_
                exact hb
    · intro a_1 b_2 R hh
      rw [diptychref1_SameAll_k] at hh
      refine start_diptychref1_SameAll rfl ?_
      refine awp_first fun K kk hK => ?_
      simp only [go_sem]
      refine hK _ _ fun nx => ?_; clear hK K; try clear kk
      refine awp_seq ?_
      refine awp_first fun K kk hK => ?_
      simp only [go_sem]
      refine hK _ _ fun nx => ?_; clear hK K; try clear kk
      by_cases h1 : ((a_1.length : Int) != (b_2.length : Int)) = true
      · rw [if_pos h1] at hh
        refine awp_true (by first | exact congrArg PV.bool h1 | rfl) ?_
        refine awp_first fun K kk hK => ?_
        simp only [go_sem]
        refine hK _ _ fun nx => ?_; clear hK K; try clear kk
        refine awp_ret ?_; refine nmx ?_
        obtain hR := Option.some.inj hh
        subst hR
        exact ret_p2
      · rw [if_neg h1] at hh
        replace h1 := Bool.eq_false_iff.mpr h1
        refine awp_false (by first | exact congrArg PV.bool h1 | rfl) ?_
        refine awp_skip ?_; refine nmx ?_
        refine awp_seq ?_
        refine awp_first fun K kk hK => ?_
        simp only [go_sem]
        refine hK _ _ fun nx => ?_; clear hK K; try clear kk
        obtain ⟨e0, f0, hh⟩ := bind_ex hh
        obtain ⟨hlen0, f0⟩ := chk_some f0
        refine awp_fragE (CutTo (fun s => .inr () = e0 ∧ ∃ (i_14 : Int) (v_15 : Bool) (nx : Nat), s = ⟨[(0, .list 5 (a_1.map api_Node.pv)), (1, .list 5 (b_2.map api_Node.pv)), (5, .int .i64 i_14), (14, .bool v_15)], [], nx⟩))
          (fun i s => False)
          (fun s => ∃ res_13, .inl res_13 = e0 ∧ bodyR Tryz.prog [.tmp 4] (.bool res_13) [] .ret s) ?_ ?_ ?_ ?_
        · refine awp_block ?_
          refine awp_loopJ fun I hI => ?_
          have key : ∀ (suf pre : List api_Node) (i_6 : Int), a_1 = pre ++ suf → i_6 = (pre.length : Int) → diptychref1_SameAll_l0 b_2 (diptychref1_Same_k kr) suf i_6 = some e0 → ∀ (nx : Nat), I ⟨[(0, .list 5 (a_1.map api_Node.pv)), (1, .list 5 (b_2.map api_Node.pv)), (5, .int .i64 i_6)], [], nx⟩ := by
            intro suf
            induction suf with
            | nil =>
              intro pre i_6 hsplit hidx hh nx
              rw [diptychref1_SameAll_l0] at hh
              refine hI _ ?_
              have h12 := walk_nil hsplit hidx
              refine awp_seq ?_
              refine awp_first fun K kk hK => ?_
              simp only [go_sem]
              refine hK _ _ fun nx => ?_; clear hK K; try clear kk
              refine awp_false (by first | exact congrArg PV.bool h12 | rfl) ?_
              refine awp_exit ?_; refine nmx ?_
              refine fragN ?_
              refine cut_id ?_
              refine ⟨(Option.some.inj hh), ?_⟩
              first | exact ⟨_, _, _, rfl⟩ | (simp only [api_Attr.pv_eq, api_Node.pv_eq, step_Step.pv_eq, diptychref11_Step.pv_eq, pvL, List.map_cons, List.map_nil, List.map_append, rune1]; exact ⟨_, _, _, rfl⟩) | (simp only [api_Attr.pv_eq, api_Node.pv_eq, step_Step.pv_eq, diptychref11_Step.pv_eq, pvL, List.map_cons, List.map_nil, List.map_append, rune1, h1, h12]; exact ⟨_, _, _, rfl⟩)
            | cons y_10 suf ih =>
              intro pre i_6 hsplit hidx hh nx
              rw [diptychref1_SameAll_l0] at hh
              refine hI _ ?_
              obtain ⟨hl0a, hl0b, hl0d, hl0w, h12⟩ := walk_cons (f := api_Node.pv) hsplit hidx hlen0
              refine awp_seq ?_
              refine awp_first fun K kk hK => ?_
              simp only [go_sem]
              refine hK _ _ fun nx => ?_; clear hK K; try clear kk
              refine awp_true (by first | exact congrArg PV.bool h12 | rfl) ?_
              refine awp_skip ?_; refine nmx ?_
              refine awp_seq ?_
              refine awp_block ?_
              obtain ⟨x_11, h13, hh⟩ := bind_ex hh
              obtain ⟨h13a, h13b, h13c⟩ := rd_some h13
              have h13d := rd_get (f := api_Node.pv) h13c
              have h13f := rd_more (f := api_Node.pv) h13c
              try simp only [Int.toNat_natCast, Int.reduceToNat] at h13d h13f
              obtain ⟨same_12, h14, hh⟩ := bind_ex hh
              refine awp_first fun K kk hK => ?_
              simp only [go_sem, h13a, h13b, h13d, h13f.1, h13f.2, hl0a, hl0b, hl0d, hl0w]
              (repeat refine sd ?_)
              refine step_call2 (ih_diptychref1_Same _ _ _ h14) (by (try simp only [go_sem, h13a, h13b, h13d, h13f.1, h13f.2, hl0a, hl0b, hl0d, hl0w]) <;> exact wkl) (by rfl) (by rfl) ?_
              simp only [go_sem, h13a, h13b, h13d, h13f.1, h13f.2, hl0a, hl0b, hl0d, hl0w]
              (repeat refine sd ?_)
              refine hK _ _ fun nx => ?_; clear hK K; try clear kk
              by_cases h15 : (!same_12) = true
              · rw [if_pos h15] at hh
                refine awp_true (by first | exact congrArg PV.bool h15 | rfl) ?_
                refine awp_first fun K kk hK => ?_
                simp only [go_sem, hl0a, hl0b, hl0d, hl0w]
                refine hK _ _ fun nx => ?_; clear hK K; try clear kk
                refine awp_ret ?_; refine nmx ?_
                refine fragR ⟨_, (Option.some.inj hh), ?_⟩
                exact ret_p2
              · rw [if_neg h15] at hh
                replace h15 := Bool.eq_false_iff.mpr h15
                refine awp_false (by first | exact congrArg PV.bool h15 | rfl) ?_
                refine awp_skip ?_; refine nmx ?_
                refine awp_region fun K kk hK => ?_
                simp only [go_sem, hl0a, hl0b, hl0d, hl0w]
                refine hK _ _ fun nx => ?_; clear hK K; try clear kk
                refine nmx ?_
                have ih' := ih (pre ++ [y_10]) (i_6 + 1) (by rw [hsplit]; simp) (by simp [hidx]) hh nx
                refine cut_id ?_
                first | exact ih' | (simp only [api_Attr.pv_eq, api_Node.pv_eq, step_Step.pv_eq, diptychref11_Step.pv_eq, pvL, List.map_cons, List.map_nil, List.map_append, rune1] at ih' ⊢; exact ih') | (simp only [api_Attr.pv_eq, api_Node.pv_eq, step_Step.pv_eq, diptychref11_Step.pv_eq, pvL, List.map_cons, List.map_nil, List.map_append, rune1, h1, h12, h15] at ih' ⊢; exact ih')
          exact key a_1 [] _ rfl rfl f0 _
        · rintro s ⟨t, hless, rfl, i_14, v_15, nx, rfl⟩
          try dsimp only at hh
          refine nmy ?_
          first | (refine cut_less hless ?_; try refine cut_awp ?_) | refine frag_less hless ?_ | refine body_less hless ?_
          refine awp_first fun K kk hK => ?_
          simp only [go_sem]
          refine hK _ _ fun nx => ?_; clear hK K; try clear kk
          refine awp_ret ?_; refine nmx ?_
          obtain hR := Option.some.inj hh
          subst hR
          exact ret_p2
        · intro i s h; exact h.elim
        · rintro s ⟨res_13, rfl, hb⟩
          try dsimp only at hh
          obtain hR := Option.some.inj hh
          subst hR
          refine nmx ?_
          exact hb
theorem diptychref1_Same_ok (a_1 : api_Node) (b_2 : api_Node) (R : Bool) (hh : diptychref1_Same a_1 b_2 = some R) : PC Tryz.prog 21 [.agg [.str a_1.Kind, .str a_1.Text, .list 1 (a_1.Marks.map PV.str), .list 2 (a_1.Attrs.map api_Attr.pv), .list 5 (a_1.Kids.map api_Node.pv)], .agg [.str b_2.Kind, .str b_2.Text, .list 1 (b_2.Marks.map PV.str), .list 2 (b_2.Attrs.map api_Attr.pv), .list 5 (b_2.Kids.map api_Node.pv)]] (.bool R) := by
  rw [diptychref1_Same] at hh
  obtain ⟨kr, hh⟩ := lim_some hh
  exact (diptychref1_Same_grp kr).1 _ _ _ hh
theorem diptychref1_SameAll_ok (a_1 : (List api_Node)) (b_2 : (List api_Node)) (R : Bool) (hh : diptychref1_SameAll a_1 b_2 = some R) : PC Tryz.prog 54 [.list 5 (a_1.map api_Node.pv), .list 5 (b_2.map api_Node.pv)] (.bool R) := by
  rw [diptychref1_SameAll] at hh
  obtain ⟨kr, hh⟩ := lim_some hh
  exact (diptychref1_Same_grp kr).2 _ _ _ hh
theorem diptychref1_Join_ok (l_1 : (List api_Node)) (R : (List api_Node)) (hh : diptychref1_Join l_1 = some R) : PC Tryz.prog 55 [.list 5 (l_1.map api_Node.pv)] (.own 5 (R.map api_Node.pv)) := by
  rw [diptychref1_Join] at hh
  refine start_diptychref1_Join rfl ?_
  refine awp_first fun K kk hK => ?_
  simp only [go_sem]
  refine hK _ _ fun nx => ?_; clear hK K; try clear kk
  refine awp_first fun K kk hK => ?_
  simp only [go_sem]
  refine hK _ _ fun nx => ?_; clear hK K; try clear kk
  refine awp_seq ?_
  refine awp_first fun K kk hK => ?_
  simp only [go_sem]
  refine hK _ _ fun nx => ?_; clear hK K; try clear kk
  obtain ⟨e0, f0, hh⟩ := bind_ex hh
  obtain ⟨hlen0, f0⟩ := chk_some f0
  refine awp_fragE (CutTo (fun s => ∃ out_39, out_39 = e0 ∧ ∃ (i_37 : Int) (v_38 : Bool) (nx : Nat) (g3 : Nat), s = ⟨[(0, .list 5 (l_1.map api_Node.pv)), (3, .row 3 g3 out_39.length), (4, .int .i64 i_37), (10, .bool v_38)], [(3, g3, .row false 5 (out_39.map api_Node.pv))], nx⟩))
    (fun i s => False)
    (fun s => False) ?_ ?_ ?_ ?_
  · refine awp_block ?_
    refine awp_loopJ fun I hI => ?_
    have key : ∀ (suf pre : List api_Node) (i_13 : Int) (out_14 : (List api_Node)), l_1 = pre ++ suf → i_13 = (pre.length : Int) → diptychref1_Join_l0 suf i_13 out_14 = some e0 → ∀ (nx : Nat) (g3 : Nat), I ⟨[(0, .list 5 (l_1.map api_Node.pv)), (3, .row 3 g3 out_14.length), (4, .int .i64 i_13)], [(3, g3, .row false 5 (out_14.map api_Node.pv))], nx⟩ := by
      intro suf
      induction suf with
      | nil =>
        intro pre i_13 out_14 hsplit hidx hh nx g3
        rw [diptychref1_Join_l0] at hh
        refine hI _ ?_
        have h37 := walk_nil hsplit hidx
        refine awp_seq ?_
        refine awp_first fun K kk hK => ?_
        simp only [go_sem]
        refine hK _ _ fun nx => ?_; clear hK K; try clear kk
        refine awp_false (by first | exact congrArg PV.bool h37 | rfl) ?_
        refine awp_exit ?_; refine nmx ?_
        refine fragN ?_
        refine cut_id ?_
        refine ⟨_, (Option.some.inj hh), ?_⟩
        first | exact ⟨_, _, _, _, rfl⟩ | (simp only [api_Attr.pv_eq, api_Node.pv_eq, step_Step.pv_eq, diptychref11_Step.pv_eq, pvL, List.map_cons, List.map_nil, List.map_append, rune1]; exact ⟨_, _, _, _, rfl⟩) | (simp only [api_Attr.pv_eq, api_Node.pv_eq, step_Step.pv_eq, diptychref11_Step.pv_eq, pvL, List.map_cons, List.map_nil, List.map_append, rune1, h37]; exact ⟨_, _, _, _, rfl⟩)
      | cons y_26 suf ih =>
        intro pre i_13 out_14 hsplit hidx hh nx g3
        rw [diptychref1_Join_l0] at hh
        refine hI _ ?_
        obtain ⟨hl0a, hl0b, hl0d, hl0w, h37⟩ := walk_cons (f := api_Node.pv) hsplit hidx hlen0
        refine awp_seq ?_
        refine awp_first fun K kk hK => ?_
        simp only [go_sem]
        refine hK _ _ fun nx => ?_; clear hK K; try clear kk
        refine awp_true (by first | exact congrArg PV.bool h37 | rfl) ?_
        refine awp_skip ?_; refine nmx ?_
        refine awp_seq ?_
        refine awp_block ?_
        refine awp_first fun K kk hK => ?_
        simp only [go_sem, hl0a, hl0b, hl0d, hl0w]
        refine hK _ _ fun nx => ?_; clear hK K; try clear kk
        refine awp_first fun K kk hK => ?_
        simp only [go_sem, hl0a, hl0b, hl0d, hl0w]
        refine hK _ _ fun nx => ?_; clear hK K; try clear kk
        refine awp_seq ?_
        obtain ⟨e3, f3, hh⟩ := bind_ex hh
        refine awp_frag (fun s => .inr () = e3 ∧ ∃ (v_27 : Bool) (nx : Nat) (g3 : Nat) (g5 : Nat), s = ⟨[(0, .list 5 (l_1.map api_Node.pv)), (3, .row 3 g3 out_14.length), (4, .int .i64 i_13), (5, .box 5 g5 0), (6, .int .i64 (w64 ((out_14.length : Int) - (1 : Int)))), (27, .bool v_27)], [(3, g3, .row false 5 (out_14.map api_Node.pv)), (5, g5, .var 28 [.str y_26.Kind, .str y_26.Text, .list 1 (y_26.Marks.map PV.str), .list 2 (y_26.Attrs.map api_Attr.pv), .list 5 (y_26.Kids.map api_Node.pv)])], nx⟩)
          (fun i s => (i = 1 ∧ .inl () = e3 ∧ ∃ (nx : Nat) (g3 : Nat) (g5 : Nat), s = ⟨[(0, .list 5 (l_1.map api_Node.pv)), (3, .row 3 g3 out_14.length), (4, .int .i64 i_13), (5, .box 5 g5 0), (6, .int .i64 (w64 ((out_14.length : Int) - (1 : Int)))), (27, .bool (y_26.Text == ([] : Str)))], [(3, g3, .row false 5 (out_14.map api_Node.pv)), (5, g5, .var 28 [.str y_26.Kind, .str y_26.Text, .list 1 (y_26.Marks.map PV.str), .list 2 (y_26.Attrs.map api_Attr.pv), .list 5 (y_26.Kids.map api_Node.pv)])], nx⟩))
          (fun s => False) ?_ ?_ ?_ ?_
        · have hh := f3
          by_cases h38 : (y_26.Kind == ([116, 101, 120, 116] : Str)) = true
          · rw [if_pos h38] at hh
            refine awp_first fun K kk hK => ?_
            simp only [go_sem, h38, h38, hl0a, hl0b, hl0d, hl0w]
            (repeat refine sd ?_)
            refine hK _ _ fun nx => ?_; clear hK K; try clear kk
            by_cases h39 : (y_26.Text == ([] : Str)) = true
            · rw [if_pos h39] at hh
              refine awp_true (by first | exact congrArg PV.bool h39 | rfl) ?_
              refine awp_exit ?_; refine nmx ?_
              refine fragE ⟨rfl, (Option.some.inj hh), ?_⟩
              first | exact ⟨_, _, _, rfl⟩ | (simp only [api_Attr.pv_eq, api_Node.pv_eq, step_Step.pv_eq, diptychref11_Step.pv_eq, pvL, List.map_cons, List.map_nil, List.map_append, rune1]; exact ⟨_, _, _, rfl⟩) | (simp only [api_Attr.pv_eq, api_Node.pv_eq, step_Step.pv_eq, diptychref11_Step.pv_eq, pvL, List.map_cons, List.map_nil, List.map_append, rune1, h37, h38, h39]; exact ⟨_, _, _, rfl⟩)
            · rw [if_neg h39] at hh
              replace h39 := Bool.eq_false_iff.mpr h39
              refine awp_false (by first | exact congrArg PV.bool h39 | rfl) ?_
              refine awp_skip ?_; refine nmx ?_
              refine fragN ?_
              refine cut_id ?_
              refine ⟨(Option.some.inj hh), ?_⟩
              first | exact ⟨_, _, _, _, rfl⟩ | (simp only [api_Attr.pv_eq, api_Node.pv_eq, step_Step.pv_eq, diptychref11_Step.pv_eq, pvL, List.map_cons, List.map_nil, List.map_append, rune1]; exact ⟨_, _, _, _, rfl⟩) | (simp only [api_Attr.pv_eq, api_Node.pv_eq, step_Step.pv_eq, diptychref11_Step.pv_eq, pvL, List.map_cons, List.map_nil, List.map_append, rune1, h37, h38, h39]; exact ⟨_, _, _, _, rfl⟩)
          · rw [if_neg h38] at hh
            replace h38 := Bool.eq_false_iff.mpr h38
            refine awp_first fun K kk hK => ?_
            simp only [go_sem, h38, h38, hl0a, hl0b, hl0d, hl0w]
            (repeat refine sd ?_)
            refine hK _ _ fun nx => ?_; clear hK K; try clear kk
            refine awp_false rfl ?_
            refine awp_skip ?_; refine nmx ?_
            refine fragN ?_
            refine cut_id ?_
            refine ⟨(Option.some.inj hh), ?_⟩
            first | exact ⟨_, _, _, _, rfl⟩ | (simp only [api_Attr.pv_eq, api_Node.pv_eq, step_Step.pv_eq, diptychref11_Step.pv_eq, pvL, List.map_cons, List.map_nil, List.map_append, rune1]; exact ⟨_, _, _, _, rfl⟩) | (simp only [api_Attr.pv_eq, api_Node.pv_eq, step_Step.pv_eq, diptychref11_Step.pv_eq, pvL, List.map_cons, List.map_nil, List.map_append, rune1, h37, h38]; exact ⟨_, _, _, _, rfl⟩)
        · rintro s ⟨rfl, v_27, nx, g3, g5, rfl⟩
          try dsimp only at hh
          refine awp_seq ?_
          by_cases h40 : (y_26.Kind == ([116, 101, 120, 116] : Str)) = true
          · rw [if_pos h40] at hh
            by_cases h41 : (decide ((w64 ((out_14.length : Int) - (1 : Int))) ≥ (0 : Int))) = true
            · rw [if_pos h41] at hh
              obtain ⟨x_28, h42, hh⟩ := bind_ex hh
              obtain ⟨h42a, h42b, h42c⟩ := rd_some h42
              have h42d := rd_get (f := api_Node.pv) h42c
              have h42f := rd_more (f := api_Node.pv) h42c
              try simp only [Int.toNat_natCast, Int.reduceToNat] at h42d h42f
              by_cases h43 : (x_28.Kind == ([116, 101, 120, 116] : Str)) = true
              · rw [if_pos h43] at hh
                obtain ⟨samena_29, h44, hh⟩ := bind_ex hh
                refine awp_first fun K kk hK => ?_
                simp only [go_sem, h40, h40, h41, of_decide_eq_true h41, h42a, h42b, h42d, h42f.1, h42f.2, h41, of_decide_eq_true h41, h43, h42a, h42b, h42d, h42f.1, h42f.2, h43, hl0a, hl0b, hl0d, hl0w]
                (repeat refine sd ?_)
                refine step_call2 (diptychref1_sameNames_ok _ _ _ h44) (by (try simp only [go_sem, h40, h40, h41, of_decide_eq_true h41, h42a, h42b, h42d, h42f.1, h42f.2, h41, of_decide_eq_true h41, h43, h42a, h42b, h42d, h42f.1, h42f.2, h43, hl0a, hl0b, hl0d, hl0w]) <;> exact wkl) (by rfl) (by rfl) ?_
                simp only [go_sem, h40, h40, h41, of_decide_eq_true h41, h42a, h42b, h42d, h42f.1, h42f.2, h41, of_decide_eq_true h41, h43, h42a, h42b, h42d, h42f.1, h42f.2, h43, hl0a, hl0b, hl0d, hl0w]
                (repeat refine sd ?_)
                refine hK _ _ fun nx => ?_; clear hK K; try clear kk
                by_cases h45 : (samena_29) = true
                · rw [if_pos h45] at hh
                  refine awp_true (by first | exact congrArg PV.bool h45 | rfl) ?_
                  obtain ⟨h46, hh⟩ := chk_some hh
                  refine awp_first fun K kk hK => ?_
                  simp only [go_sem, h42a, h42b, h42d, h42f.1, h42f.2, h46, hl0a, hl0b, hl0d, hl0w]
                  (repeat refine sd ?_)
                  refine hK _ _ fun nx => ?_; clear hK K; try clear kk
                  obtain ⟨s_30, h47, hh⟩ := bind_ex hh
                  obtain ⟨h47a, h47c⟩ := sl_some h47
                  have h47g := sl_le h47a
                  have h47d := sl_map0 (f := api_Node.pv) h47c
                  try simp only [Int.toNat_natCast, Int.reduceToNat, List.map_cons, List.map_nil, api_Attr.pv_eq, api_Node.pv_eq, step_Step.pv_eq, diptychref11_Step.pv_eq, pvL] at h47d
                  obtain ⟨l_31, h48, hh⟩ := bind_ex hh
                  obtain ⟨h48a, h48c⟩ := app_some h48
                  have h48d := app_map (f := api_Node.pv) h48c
                  have h48e := app_len h48c
                  try simp only [List.length_cons, List.length_nil, Nat.zero_add, Nat.reduceAdd] at h48a h48e
                  try simp only [h48e] at h48a
                  try simp only [List.map_cons, List.map_nil, List.nil_append, List.append_nil, List.cons_append, List.singleton_append, rune1, api_Attr.pv_eq, api_Node.pv_eq, step_Step.pv_eq, diptychref11_Step.pv_eq, pvL] at h48d
                  obtain ⟨l_32, h49, hh⟩ := bind_ex hh
                  obtain ⟨h49a, h49c⟩ := app_some h49
                  have h49d := app_map (f := api_Node.pv) h49c
                  have h49e := app_len h49c
                  try simp only [List.length_cons, List.length_nil, Nat.zero_add, Nat.reduceAdd] at h49a h49e
                  try simp only [h49e] at h49a
                  try simp only [List.map_cons, List.map_nil, List.nil_append, List.append_nil, List.cons_append, List.singleton_append, rune1, api_Attr.pv_eq, api_Node.pv_eq, step_Step.pv_eq, diptychref11_Step.pv_eq, pvL] at h49d
                  refine awp_first fun K kk hK => ?_
                  simp only [go_sem, h47a.1, h47a.2.1, h47a.2.2, h47d, h47g, h48a, h48d, h48e, h49a, h49d, h49e, hl0a, hl0b, hl0d, hl0w]
                  (repeat refine sd ?_)
                  refine hK _ _ fun nx => ?_; clear hK K; try clear kk
                  refine awp_exit ?_; refine nmx ?_
                  refine awp_region fun K kk hK => ?_
                  simp only [go_sem, hl0a, hl0b, hl0d, hl0w]
                  refine hK _ _ fun nx => ?_; clear hK K; try clear kk
                  refine nmx ?_
                  have ih' := ih (pre ++ [y_26]) (i_13 + 1) _ (by rw [hsplit]; simp) (by simp [hidx]) hh nx
                  refine cut_id ?_
                  first | exact ih' _ | (simp only [api_Attr.pv_eq, api_Node.pv_eq, step_Step.pv_eq, diptychref11_Step.pv_eq, pvL, List.map_cons, List.map_nil, List.map_append, rune1, h48e, h48d, h49e] at ih' ⊢; exact ih' _) | (simp only [api_Attr.pv_eq, api_Node.pv_eq, step_Step.pv_eq, diptychref11_Step.pv_eq, pvL, List.map_cons, List.map_nil, List.map_append, rune1, h48e, h48d, h49e, h37, h40, h41, h43, h45] at ih' ⊢; exact ih' _)
                · rw [if_neg h45] at hh
                  replace h45 := Bool.eq_false_iff.mpr h45
                  refine awp_false (by first | exact congrArg PV.bool h45 | rfl) ?_
                  refine awp_skip ?_; refine nmx ?_
                  obtain ⟨l_33, h50, hh⟩ := bind_ex hh
                  obtain ⟨h50a, h50c⟩ := app_some h50
                  have h50d := app_map (f := api_Node.pv) h50c
                  have h50e := app_len h50c
                  try simp only [List.length_cons, List.length_nil, Nat.zero_add, Nat.reduceAdd] at h50a h50e
                  try simp only [h50e] at h50a
                  try simp only [List.map_cons, List.map_nil, List.nil_append, List.append_nil, List.cons_append, List.singleton_append, rune1, api_Attr.pv_eq, api_Node.pv_eq, step_Step.pv_eq, diptychref11_Step.pv_eq, pvL] at h50d
                  refine awp_region fun K kk hK => ?_
                  simp only [go_sem, h50a, h50d, h50e, hl0a, hl0b, hl0d, hl0w]
                  (repeat refine sd ?_)
                  refine hK _ _ fun nx => ?_; clear hK K; try clear kk
                  refine nmx ?_
                  refine awp_region fun K kk hK => ?_
                  simp only [go_sem, hl0a, hl0b, hl0d, hl0w]
                  refine hK _ _ fun nx => ?_; clear hK K; try clear kk
                  refine nmx ?_
                  have ih' := ih (pre ++ [y_26]) (i_13 + 1) _ (by rw [hsplit]; simp) (by simp [hidx]) hh nx
                  refine cut_id ?_
                  first | exact ih' _ | (simp only [api_Attr.pv_eq, api_Node.pv_eq, step_Step.pv_eq, diptychref11_Step.pv_eq, pvL, List.map_cons, List.map_nil, List.map_append, rune1, h50e] at ih' ⊢; exact ih' _) | (simp only [api_Attr.pv_eq, api_Node.pv_eq, step_Step.pv_eq, diptychref11_Step.pv_eq, pvL, List.map_cons, List.map_nil, List.map_append, rune1, h50e, h37, h40, h41, h43, h45] at ih' ⊢; exact ih' _)
              · rw [if_neg h43] at hh
                replace h43 := Bool.eq_false_iff.mpr h43
                refine awp_first fun K kk hK => ?_
                simp only [go_sem, h40, h40, h41, of_decide_eq_true h41, h42a, h42b, h42d, h42f.1, h42f.2, h41, of_decide_eq_true h41, h43, h43, hl0a, hl0b, hl0d, hl0w]
                (repeat refine sd ?_)
                refine hK _ _ fun nx => ?_; clear hK K; try clear kk
                refine awp_false rfl ?_
                refine awp_skip ?_; refine nmx ?_
                obtain ⟨l_34, h51, hh⟩ := bind_ex hh
                obtain ⟨h51a, h51c⟩ := app_some h51
                have h51d := app_map (f := api_Node.pv) h51c
                have h51e := app_len h51c
                try simp only [List.length_cons, List.length_nil, Nat.zero_add, Nat.reduceAdd] at h51a h51e
                try simp only [h51e] at h51a
                try simp only [List.map_cons, List.map_nil, List.nil_append, List.append_nil, List.cons_append, List.singleton_append, rune1, api_Attr.pv_eq, api_Node.pv_eq, step_Step.pv_eq, diptychref11_Step.pv_eq, pvL] at h51d
                refine awp_region fun K kk hK => ?_
                simp only [go_sem, h51a, h51d, h51e, hl0a, hl0b, hl0d, hl0w]
                (repeat refine sd ?_)
                refine hK _ _ fun nx => ?_; clear hK K; try clear kk
                refine nmx ?_
                refine awp_region fun K kk hK => ?_
                simp only [go_sem, hl0a, hl0b, hl0d, hl0w]
                refine hK _ _ fun nx => ?_; clear hK K; try clear kk
                refine nmx ?_
                have ih' := ih (pre ++ [y_26]) (i_13 + 1) _ (by rw [hsplit]; simp) (by simp [hidx]) hh nx
                refine cut_id ?_
                first | exact ih' _ | (simp only [api_Attr.pv_eq, api_Node.pv_eq, step_Step.pv_eq, diptychref11_Step.pv_eq, pvL, List.map_cons, List.map_nil, List.map_append, rune1, h51e] at ih' ⊢; exact ih' _) | (simp only [api_Attr.pv_eq, api_Node.pv_eq, step_Step.pv_eq, diptychref11_Step.pv_eq, pvL, List.map_cons, List.map_nil, List.map_append, rune1, h51e, h37, h40, h41, h43] at ih' ⊢; exact ih' _)
            · rw [if_neg h41] at hh
              replace h41 := Bool.eq_false_iff.mpr h41
              refine awp_first fun K kk hK => ?_
              simp only [go_sem, h40, h40, h41, of_decide_eq_false h41, h41, of_decide_eq_false h41, hl0a, hl0b, hl0d, hl0w]
              (repeat refine sd ?_)
              refine hK _ _ fun nx => ?_; clear hK K; try clear kk
              refine awp_false rfl ?_
              refine awp_skip ?_; refine nmx ?_
              obtain ⟨l_35, h52, hh⟩ := bind_ex hh
              obtain ⟨h52a, h52c⟩ := app_some h52
              have h52d := app_map (f := api_Node.pv) h52c
              have h52e := app_len h52c
              try simp only [List.length_cons, List.length_nil, Nat.zero_add, Nat.reduceAdd] at h52a h52e
              try simp only [h52e] at h52a
              try simp only [List.map_cons, List.map_nil, List.nil_append, List.append_nil, List.cons_append, List.singleton_append, rune1, api_Attr.pv_eq, api_Node.pv_eq, step_Step.pv_eq, diptychref11_Step.pv_eq, pvL] at h52d
              refine awp_region fun K kk hK => ?_
              simp only [go_sem, h52a, h52d, h52e, hl0a, hl0b, hl0d, hl0w]
              (repeat refine sd ?_)
              refine hK _ _ fun nx => ?_; clear hK K; try clear kk
              refine nmx ?_
              refine awp_region fun K kk hK => ?_
              simp only [go_sem, hl0a, hl0b, hl0d, hl0w]
              refine hK _ _ fun nx => ?_; clear hK K; try clear kk
              refine nmx ?_
              have ih' := ih (pre ++ [y_26]) (i_13 + 1) _ (by rw [hsplit]; simp) (by simp [hidx]) hh nx
              refine cut_id ?_
              first | exact ih' _ | (simp only [api_Attr.pv_eq, api_Node.pv_eq, step_Step.pv_eq, diptychref11_Step.pv_eq, pvL, List.map_cons, List.map_nil, List.map_append, rune1, h52e] at ih' ⊢; exact ih' _) | (simp only [api_Attr.pv_eq, api_Node.pv_eq, step_Step.pv_eq, diptychref11_Step.pv_eq, pvL, List.map_cons, List.map_nil, List.map_append, rune1, h52e, h37, h40, h41] at ih' ⊢; exact ih' _)
          · rw [if_neg h40] at hh
            replace h40 := Bool.eq_false_iff.mpr h40
            refine awp_first fun K kk hK => ?_
            simp only [go_sem, h40, h40, hl0a, hl0b, hl0d, hl0w]
            (repeat refine sd ?_)
            refine hK _ _ fun nx => ?_; clear hK K; try clear kk
            refine awp_false rfl ?_
            refine awp_skip ?_; refine nmx ?_
            obtain ⟨l_36, h53, hh⟩ := bind_ex hh
            obtain ⟨h53a, h53c⟩ := app_some h53
            have h53d := app_map (f := api_Node.pv) h53c
            have h53e := app_len h53c
            try simp only [List.length_cons, List.length_nil, Nat.zero_add, Nat.reduceAdd] at h53a h53e
            try simp only [h53e] at h53a
            try simp only [List.map_cons, List.map_nil, List.nil_append, List.append_nil, List.cons_append, List.singleton_append, rune1, api_Attr.pv_eq, api_Node.pv_eq, step_Step.pv_eq, diptychref11_Step.pv_eq, pvL] at h53d
            refine awp_region fun K kk hK => ?_
            simp only [go_sem, h53a, h53d, h53e, hl0a, hl0b, hl0d, hl0w]
            (repeat refine sd ?_)
            refine hK _ _ fun nx => ?_; clear hK K; try clear kk
            refine nmx ?_
            refine awp_region fun K kk hK => ?_
            simp only [go_sem, hl0a, hl0b, hl0d, hl0w]
            refine hK _ _ fun nx => ?_; clear hK K; try clear kk
            refine nmx ?_
            have ih' := ih (pre ++ [y_26]) (i_13 + 1) _ (by rw [hsplit]; simp) (by simp [hidx]) hh nx
            refine cut_id ?_
            first | exact ih' _ | (simp only [api_Attr.pv_eq, api_Node.pv_eq, step_Step.pv_eq, diptychref11_Step.pv_eq, pvL, List.map_cons, List.map_nil, List.map_append, rune1, h53e] at ih' ⊢; exact ih' _) | (simp only [api_Attr.pv_eq, api_Node.pv_eq, step_Step.pv_eq, diptychref11_Step.pv_eq, pvL, List.map_cons, List.map_nil, List.map_append, rune1, h53e, h37, h40] at ih' ⊢; exact ih' _)
        · intro i s h
          obtain ⟨rfl, rfl, nx, g3, g5, rfl⟩ := h
          try dsimp only at hh
          refine nmx ?_
          refine awp_region fun K kk hK => ?_
          simp only [go_sem, hl0a, hl0b, hl0d, hl0w]
          refine hK _ _ fun nx => ?_; clear hK K; try clear kk
          refine nmx ?_
          have ih' := ih (pre ++ [y_26]) (i_13 + 1) _ (by rw [hsplit]; simp) (by simp [hidx]) hh nx
          refine cut_id ?_
          first | exact ih' _ | (simp only [api_Attr.pv_eq, api_Node.pv_eq, step_Step.pv_eq, diptychref11_Step.pv_eq, pvL, List.map_cons, List.map_nil, List.map_append, rune1] at ih' ⊢; exact ih' _) | (simp only [api_Attr.pv_eq, api_Node.pv_eq, step_Step.pv_eq, diptychref11_Step.pv_eq, pvL, List.map_cons, List.map_nil, List.map_append, rune1, h37] at ih' ⊢; exact ih' _)
        · intro s h; exact h.elim
    exact key l_1 [] _ _ rfl rfl f0 _ _
  · rintro s ⟨t, hless, out_39, rfl, i_37, v_38, nx, g3, rfl⟩
    try dsimp only at hh
    refine nmy ?_
    first | (refine cut_less hless ?_; try refine cut_awp ?_) | refine frag_less hless ?_ | refine body_less hless ?_
    refine awp_first fun K kk hK => ?_
    simp only [go_sem]
    refine hK _ _ fun nx => ?_; clear hK K; try clear kk
    refine awp_ret ?_; refine nmx ?_
    obtain hR := Option.some.inj hh
    subst hR
    exact ret_own (by rfl) (by rfl) (by rfl) (by simp only [List.length_map, List.length_cons, List.length_nil, Nat.zero_add, Nat.reduceAdd]) (by first | rfl | (simp only [api_Attr.pv_eq, api_Node.pv_eq, step_Step.pv_eq, diptychref11_Step.pv_eq, pvL, List.map_cons, List.map_nil, List.map_append, rune1]; done) | (simp only [api_Attr.pv_eq, api_Node.pv_eq, step_Step.pv_eq, diptychref11_Step.pv_eq, pvL, List.map_cons, List.map_nil, List.map_append, rune1]; rfl))
  · intro i s h; exact h.elim
  · intro s h; exact h.elim

end Go.Proofs.YtclohbgnaopjfaaGreatDoor
