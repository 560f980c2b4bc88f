/- What the functions answer, the program answers (4). -/
import Derived.Test.YtclohbgnaopjfaaGreatDoorAgC
import Derived.Test.YtclohbgnaopjfaaGreatDoorAgF
import Derived.Test.YtclohbgnaopjfaaGreatDoorAgK3
namespace Go.Proofs.YtclohbgnaopjfaaGreatDoor
set_option linter.unusedSimpArgs false
set_option linter.unusedVariables false
open Go
set_option maxRecDepth 100000

theorem diptychref1_Name_ok (s_1 : Str) (R : Bool) (hh : diptychref1_Name s_1 = some R) : PC Tryz.prog 57 [.str s_1] (.bool R) := by
  rw [diptychref1_Name] at hh
  refine start_diptychref1_Name rfl ?_
  refine awp_first fun K kk hK => ?_
  simp only [go_sem]
  refine hK _ _ fun nx => ?_; clear hK K; try clear kk
  refine awp_seq ?_
  refine awp_first fun K kk hK => ?_
  simp only [go_sem]
  refine hK _ _ fun nx => ?_; clear hK K; try clear kk
  obtain ⟨e0, f0, hh⟩ := bind_ex hh
  refine awp_fragE (CutTo (fun s => .inr () = e0 ∧ ∃ (i_4 : Int) (v_5 : Bool) (nx : Nat), s = ⟨[(0, .str s_1), (3, .int .i64 i_4), (7, .bool v_5)], [], nx⟩))
    (fun i s => False)
    (fun s => ∃ res_3, .inl res_3 = e0 ∧ bodyR Tryz.prog [.tmp 2] (.bool res_3) [] .ret s) ?_ ?_ ?_ ?_
  · refine awp_block ?_
    refine awp_loopJ fun I hI => ?_
    obtain ⟨k, f0⟩ := lim_some f0
    have key : ∀ (k : Nat) (i_2 : Int), diptychref1_Name_l0 s_1 k i_2 = some e0 → ∀ (nx : Nat), I ⟨[(0, .str s_1), (3, .int .i64 i_2)], [], nx⟩ := by
      intro k
      induction k with
      | zero => intro i_2 hh; rw [diptychref1_Name_l0] at hh; cases hh
      | succ k ih =>
        intro i_2 hh nx
        rw [diptychref1_Name_l0] at hh
        refine hI _ ?_
        refine awp_seq ?_
        refine awp_first fun K kk hK => ?_
        simp only [go_sem]
        refine hK _ _ fun nx => ?_; clear hK K; try clear kk
        by_cases h6 : (decide (i_2 < (s_1.length : Int))) = true
        · rw [if_pos h6] at hh
          refine awp_true (by first | exact congrArg PV.bool h6 | rfl) ?_
          refine awp_skip ?_; refine nmx ?_
          refine awp_seq ?_
          refine awp_block ?_
          obtain ⟨h7, hh⟩ := chk_some hh
          by_cases h8 : (decide (((s_1.getD i_2.toNat 0).toNat : Int) < (97 : Int))) = true
          · rw [if_pos h8] at hh
            refine awp_first fun K kk hK => ?_
            simp only [go_sem, h7.1, h7.2, h8, of_decide_eq_true h8, h8, of_decide_eq_true h8]
            (repeat refine sd ?_)
            refine hK _ _ fun nx => ?_; clear hK K; try clear kk
            refine awp_true rfl ?_
            refine awp_first fun K kk hK => ?_
            simp only [go_sem]
            refine hK _ _ fun nx => ?_; clear hK K; try clear kk
            refine awp_ret ?_; refine nmx ?_
            refine fragR ⟨_, (Option.some.inj hh), ?_⟩
            exact ret_p2
          · rw [if_neg h8] at hh
            replace h8 := Bool.eq_false_iff.mpr h8
            obtain ⟨h9, hh⟩ := chk_some hh
            refine awp_first fun K kk hK => ?_
            simp only [go_sem, h7.1, h7.2, h8, of_decide_eq_false h8, h9.1, h9.2, h8, of_decide_eq_false h8]
            (repeat refine sd ?_)
            refine hK _ _ fun nx => ?_; clear hK K; try clear kk
            by_cases h10 : (decide (((s_1.getD i_2.toNat 0).toNat : Int) > (122 : Int))) = true
            · rw [if_pos h10] at hh
              refine awp_true (by first | exact congrArg PV.bool h10 | rfl) ?_
              refine awp_first fun K kk hK => ?_
              simp only [go_sem]
              refine hK _ _ fun nx => ?_; clear hK K; try clear kk
              refine awp_ret ?_; refine nmx ?_
              refine fragR ⟨_, (Option.some.inj hh), ?_⟩
              exact ret_p2
            · rw [if_neg h10] at hh
              replace h10 := Bool.eq_false_iff.mpr h10
              refine awp_false (by first | exact congrArg PV.bool h10 | rfl) ?_
              refine awp_skip ?_; refine nmx ?_
              refine awp_region fun K kk hK => ?_
              simp only [go_sem]
              refine hK _ _ fun nx => ?_; clear hK K; try clear kk
              refine nmx ?_
              have ih' := ih _ hh nx
              refine cut_id ?_
              first | exact ih' | (simp only [api_Attr.pv_eq, api_Node.pv_eq, step_Step.pv_eq, diptychref11_Step.pv_eq, pvL, List.map_cons, List.map_nil, List.map_append, rune1] at ih' ⊢; exact ih') | (simp only [api_Attr.pv_eq, api_Node.pv_eq, step_Step.pv_eq, diptychref11_Step.pv_eq, pvL, List.map_cons, List.map_nil, List.map_append, rune1, h10, h6, h8] at ih' ⊢; exact ih')
        · rw [if_neg h6] at hh
          replace h6 := Bool.eq_false_iff.mpr h6
          refine awp_false (by first | exact congrArg PV.bool h6 | rfl) ?_
          refine awp_exit ?_; refine nmx ?_
          refine fragN ?_
          refine cut_id ?_
          refine ⟨(Option.some.inj hh), ?_⟩
          first | exact ⟨_, _, _, rfl⟩ | (simp only [api_Attr.pv_eq, api_Node.pv_eq, step_Step.pv_eq, diptychref11_Step.pv_eq, pvL, List.map_cons, List.map_nil, List.map_append, rune1]; exact ⟨_, _, _, rfl⟩) | (simp only [api_Attr.pv_eq, api_Node.pv_eq, step_Step.pv_eq, diptychref11_Step.pv_eq, pvL, List.map_cons, List.map_nil, List.map_append, rune1, h6]; exact ⟨_, _, _, rfl⟩)
    exact key _ _ f0 _
  · rintro s ⟨t, hless, rfl, i_4, v_5, nx, rfl⟩
    try dsimp only at hh
    refine nmy ?_
    first | (refine cut_less hless ?_; try refine cut_awp ?_) | refine frag_less hless ?_ | refine body_less hless ?_
    by_cases h11 : (decide ((s_1.length : Int) ≥ (1 : Int))) = true
    · rw [if_pos h11] at hh
      by_cases h12 : (decide ((s_1.length : Int) ≤ (8 : Int))) = true
      · rw [if_pos h12] at hh
        refine awp_first fun K kk hK => ?_
        simp only [go_sem, h11, of_decide_eq_true h11, h11, of_decide_eq_true h11, h12, of_decide_eq_true h12, h12, of_decide_eq_true h12]
        (repeat refine sd ?_)
        refine hK _ _ fun nx => ?_; clear hK K; try clear kk
        refine awp_ret ?_; refine nmx ?_
        obtain hR := Option.some.inj hh
        subst hR
        exact ret_p2
      · rw [if_neg h12] at hh
        replace h12 := Bool.eq_false_iff.mpr h12
        refine awp_first fun K kk hK => ?_
        simp only [go_sem, h11, of_decide_eq_true h11, h11, of_decide_eq_true h11, h12, of_decide_eq_false h12, h12, of_decide_eq_false h12]
        (repeat refine sd ?_)
        refine hK _ _ fun nx => ?_; clear hK K; try clear kk
        refine awp_ret ?_; refine nmx ?_
        obtain hR := Option.some.inj hh
        subst hR
        exact ret_p2
    · rw [if_neg h11] at hh
      replace h11 := Bool.eq_false_iff.mpr h11
      refine awp_first fun K kk hK => ?_
      simp only [go_sem, h11, of_decide_eq_false h11, h11, of_decide_eq_false h11]
      (repeat refine sd ?_)
      refine hK _ _ fun nx => ?_; clear hK K; try clear kk
      refine awp_ret ?_; refine nmx ?_
      obtain hR := Option.some.inj hh
      subst hR
      exact ret_p2
  · intro i s h; exact h.elim
  · rintro s ⟨res_3, rfl, hb⟩
    try dsimp only at hh
    obtain hR := Option.some.inj hh
    subst hR
    refine nmx ?_
    exact hb
theorem diptychref1_rise_ok (l_1 : (List Str)) (R : Bool) (hh : diptychref1_rise l_1 = some R) : PC Tryz.prog 100 [.list 1 (l_1.map PV.str)] (.bool R) := by
  rw [diptychref1_rise] at hh
  refine start_diptychref1_rise rfl ?_
  refine awp_first fun K kk hK => ?_
  simp only [go_sem]
  refine hK _ _ fun nx => ?_; clear hK K; try clear kk
  refine awp_seq ?_
  refine awp_first fun K kk hK => ?_
  simp only [go_sem]
  refine hK _ _ fun nx => ?_; clear hK K; try clear kk
  obtain ⟨e0, f0, hh⟩ := bind_ex hh
  obtain ⟨hlen0, f0⟩ := chk_some f0
  refine awp_fragE (CutTo (fun s => .inr () = e0 ∧ ∃ (i_13 : Int) (v_14 : Bool) (nx : Nat), s = ⟨[(0, .list 1 (l_1.map PV.str)), (3, .int .i64 i_13), (7, .bool v_14)], [], nx⟩))
    (fun i s => False)
    (fun s => ∃ res_12, .inl res_12 = e0 ∧ bodyR Tryz.prog [.tmp 2] (.bool res_12) [] .ret s) ?_ ?_ ?_ ?_
  · refine awp_block ?_
    refine awp_loopJ fun I hI => ?_
    have key : ∀ (suf pre : List Str) (i_5 : Int), l_1 = pre ++ suf → i_5 = (pre.length : Int) → diptychref1_rise_l0 l_1 suf i_5 = some e0 → ∀ (nx : Nat), I ⟨[(0, .list 1 (l_1.map PV.str)), (3, .int .i64 i_5)], [], nx⟩ := by
      intro suf
      induction suf with
      | nil =>
        intro pre i_5 hsplit hidx hh nx
        rw [diptychref1_rise_l0] at hh
        refine hI _ ?_
        have h15 := walk_nil hsplit hidx
        refine awp_seq ?_
        refine awp_first fun K kk hK => ?_
        simp only [go_sem]
        refine hK _ _ fun nx => ?_; clear hK K; try clear kk
        refine awp_false (by first | exact congrArg PV.bool h15 | rfl) ?_
        refine awp_exit ?_; refine nmx ?_
        refine fragN ?_
        refine cut_id ?_
        refine ⟨(Option.some.inj hh), ?_⟩
        first | exact ⟨_, _, _, rfl⟩ | (simp only [api_Attr.pv_eq, api_Node.pv_eq, step_Step.pv_eq, diptychref11_Step.pv_eq, pvL, List.map_cons, List.map_nil, List.map_append, rune1]; exact ⟨_, _, _, rfl⟩) | (simp only [api_Attr.pv_eq, api_Node.pv_eq, step_Step.pv_eq, diptychref11_Step.pv_eq, pvL, List.map_cons, List.map_nil, List.map_append, rune1, h15]; exact ⟨_, _, _, rfl⟩)
      | cons y_9 suf ih =>
        intro pre i_5 hsplit hidx hh nx
        rw [diptychref1_rise_l0] at hh
        refine hI _ ?_
        obtain ⟨hl0a, hl0b, hl0d, hl0w, h15⟩ := walk_cons (f := PV.str) hsplit hidx hlen0
        refine awp_seq ?_
        refine awp_first fun K kk hK => ?_
        simp only [go_sem]
        refine hK _ _ fun nx => ?_; clear hK K; try clear kk
        refine awp_true (by first | exact congrArg PV.bool h15 | rfl) ?_
        refine awp_skip ?_; refine nmx ?_
        refine awp_seq ?_
        refine awp_block ?_
        obtain ⟨name_10, h16, hh⟩ := bind_ex hh
        by_cases h17 : (!name_10) = true
        · rw [if_pos h17] at hh
          refine awp_first fun K kk hK => ?_
          simp only [go_sem, h17, h17, hl0a, hl0b, hl0d, hl0w]
          (repeat refine sd ?_)
          refine step_call2 (diptychref1_Name_ok _ _ h16) (by (try simp only [go_sem, h17, h17, hl0a, hl0b, hl0d, hl0w]) <;> exact wkl) (by rfl) (by rfl) ?_
          simp only [go_sem, h17, h17, hl0a, hl0b, hl0d, hl0w]
          (repeat refine sd ?_)
          refine hK _ _ fun nx => ?_; clear hK K; try clear kk
          refine awp_true rfl ?_
          refine awp_first fun K kk hK => ?_
          simp only [go_sem, hl0a, hl0b, hl0d, hl0w]
          refine hK _ _ fun nx => ?_; clear hK K; try clear kk
          refine awp_ret ?_; refine nmx ?_
          refine fragR ⟨_, (Option.some.inj hh), ?_⟩
          exact ret_p2
        · rw [if_neg h17] at hh
          replace h17 := Bool.eq_false_iff.mpr h17
          by_cases h18 : (decide (i_5 > (0 : Int))) = true
          · rw [if_pos h18] at hh
            obtain ⟨x_11, h19, hh⟩ := bind_ex hh
            obtain ⟨h19a, h19b, h19c⟩ := rd_some h19
            have h19d := rd_get (f := PV.str) h19c
            have h19f := rd_more (f := PV.str) h19c
            try simp only [Int.toNat_natCast, Int.reduceToNat] at h19d h19f
            refine awp_first fun K kk hK => ?_
            simp only [go_sem, h17, h18, of_decide_eq_true h18, h19a, h19b, h19d, h19f.1, h19f.2, h18, of_decide_eq_true h18, h17, hl0a, hl0b, hl0d, hl0w]
            (repeat refine sd ?_)
            refine step_call2 (diptychref1_Name_ok _ _ h16) (by (try simp only [go_sem, h17, h18, of_decide_eq_true h18, h19a, h19b, h19d, h19f.1, h19f.2, h18, of_decide_eq_true h18, h17, hl0a, hl0b, hl0d, hl0w]) <;> exact wkl) (by rfl) (by rfl) ?_
            simp only [go_sem, h17, h18, of_decide_eq_true h18, h19a, h19b, h19d, h19f.1, h19f.2, h18, of_decide_eq_true h18, h17, hl0a, hl0b, hl0d, hl0w]
            (repeat refine sd ?_)
            refine hK _ _ fun nx => ?_; clear hK K; try clear kk
            by_cases h20 : ((Op.bytesLess y_9 x_11 || y_9 == x_11)) = true
            · rw [if_pos h20] at hh
              refine awp_true (by first | exact congrArg PV.bool h20 | rfl) ?_
              refine awp_first fun K kk hK => ?_
              simp only [go_sem, hl0a, hl0b, hl0d, hl0w]
              refine hK _ _ fun nx => ?_; clear hK K; try clear kk
              refine awp_ret ?_; refine nmx ?_
              refine fragR ⟨_, (Option.some.inj hh), ?_⟩
              exact ret_p2
            · rw [if_neg h20] at hh
              replace h20 := Bool.eq_false_iff.mpr h20
              refine awp_false (by first | exact congrArg PV.bool h20 | rfl) ?_
              refine awp_skip ?_; refine nmx ?_
              refine awp_region fun K kk hK => ?_
              simp only [go_sem, hl0a, hl0b, hl0d, hl0w]
              refine hK _ _ fun nx => ?_; clear hK K; try clear kk
              refine nmx ?_
              have ih' := ih (pre ++ [y_9]) (i_5 + 1) (by rw [hsplit]; simp) (by simp [hidx]) hh nx
              refine cut_id ?_
              first | exact ih' | (simp only [api_Attr.pv_eq, api_Node.pv_eq, step_Step.pv_eq, diptychref11_Step.pv_eq, pvL, List.map_cons, List.map_nil, List.map_append, rune1] at ih' ⊢; exact ih') | (simp only [api_Attr.pv_eq, api_Node.pv_eq, step_Step.pv_eq, diptychref11_Step.pv_eq, pvL, List.map_cons, List.map_nil, List.map_append, rune1, h15, h17, h18, h20] at ih' ⊢; exact ih')
          · rw [if_neg h18] at hh
            replace h18 := Bool.eq_false_iff.mpr h18
            refine awp_first fun K kk hK => ?_
            simp only [go_sem, h17, h18, of_decide_eq_false h18, h18, of_decide_eq_false h18, h17, hl0a, hl0b, hl0d, hl0w]
            (repeat refine sd ?_)
            refine step_call2 (diptychref1_Name_ok _ _ h16) (by (try simp only [go_sem, h17, h18, of_decide_eq_false h18, h18, of_decide_eq_false h18, h17, hl0a, hl0b, hl0d, hl0w]) <;> exact wkl) (by rfl) (by rfl) ?_
            simp only [go_sem, h17, h18, of_decide_eq_false h18, h18, of_decide_eq_false h18, h17, hl0a, hl0b, hl0d, hl0w]
            (repeat refine sd ?_)
            refine hK _ _ fun nx => ?_; clear hK K; try clear kk
            refine awp_false rfl ?_
            refine awp_skip ?_; refine nmx ?_
            refine awp_region fun K kk hK => ?_
            simp only [go_sem, hl0a, hl0b, hl0d, hl0w]
            refine hK _ _ fun nx => ?_; clear hK K; try clear kk
            refine nmx ?_
            have ih' := ih (pre ++ [y_9]) (i_5 + 1) (by rw [hsplit]; simp) (by simp [hidx]) hh nx
            refine cut_id ?_
            first | exact ih' | (simp only [api_Attr.pv_eq, api_Node.pv_eq, step_Step.pv_eq, diptychref11_Step.pv_eq, pvL, List.map_cons, List.map_nil, List.map_append, rune1] at ih' ⊢; exact ih') | (simp only [api_Attr.pv_eq, api_Node.pv_eq, step_Step.pv_eq, diptychref11_Step.pv_eq, pvL, List.map_cons, List.map_nil, List.map_append, rune1, h15, h17, h18] at ih' ⊢; exact ih')
    exact key l_1 [] _ rfl rfl f0 _
  · rintro s ⟨t, hless, rfl, i_13, v_14, nx, rfl⟩
    try dsimp only at hh
    refine nmy ?_
    first | (refine cut_less hless ?_; try refine cut_awp ?_) | refine frag_less hless ?_ | refine body_less hless ?_
    refine awp_first fun K kk hK => ?_
    simp only [go_sem]
    refine hK _ _ fun nx => ?_; clear hK K; try clear kk
    refine awp_ret ?_; refine nmx ?_
    obtain hR := Option.some.inj hh
    subst hR
    exact ret_p2
  · intro i s h; exact h.elim
  · rintro s ⟨res_12, rfl, hb⟩
    try dsimp only at hh
    obtain hR := Option.some.inj hh
    subst hR
    refine nmx ?_
    exact hb
theorem diptychref1_runes_ok (s_1 : Str) (R : ((List Int) × Bool)) (hh : diptychref1_runes s_1 = some R) : PC Tryz.prog 120 [.str s_1] (.tup [.list 1 (R.1.map (PV.int .i32)), .bool R.2]) := by
  rw [diptychref1_runes] at hh
  refine start_diptychref1_runes rfl ?_
  refine awp_first fun K kk hK => ?_
  simp only [go_sem]
  refine hK _ _ fun nx => ?_; clear hK K; try clear kk
  refine awp_first fun K kk hK => ?_
  simp only [go_sem]
  refine hK _ _ fun nx => ?_; clear hK K; try clear kk
  refine awp_first fun K kk hK => ?_
  simp only [go_sem]
  refine hK _ _ fun nx => ?_; clear hK K; try clear kk
  refine awp_ret ?_; refine nmx ?_
  obtain hR := Option.some.inj hh
  subst hR
  exact ret_p2
theorem diptychref1_formed_ok (s_1 : Str) (R : Bool) (hh : diptychref1_formed s_1 = some R) : PC Tryz.prog 99 [.str s_1] (.bool R) := by
  rw [diptychref1_formed] at hh
  refine start_diptychref1_formed rfl ?_
  refine awp_first fun K kk hK => ?_
  simp only [go_sem]
  refine hK _ _ fun nx => ?_; clear hK K; try clear kk
  obtain ⟨⟨r_2, r_3⟩, h1, hh⟩ := bind_ex hh
  dsimp only at hh
  refine awp_first fun K kk hK => ?_
  simp only [go_sem]
  refine step_call2 (diptychref1_runes_ok _ _ h1) (by (try simp only [go_sem]) <;> exact wkl) (by rfl) (by rfl) ?_
  simp only [go_sem]
  refine hK _ _ fun nx => ?_; clear hK K; try clear kk
  refine awp_first fun K kk hK => ?_
  simp only [go_sem]
  refine hK _ _ fun nx => ?_; clear hK K; try clear kk
  refine awp_ret ?_; refine nmx ?_
  obtain hR := Option.some.inj hh
  subst hR
  exact ret_p2
theorem diptychref1_Value_ok (s_1 : Str) (R : Bool) (hh : diptychref1_Value s_1 = some R) : PC Tryz.prog 58 [.str s_1] (.bool R) := by
  rw [diptychref1_Value] at hh
  refine start_diptychref1_Value rfl ?_
  refine awp_first fun K kk hK => ?_
  simp only [go_sem]
  refine hK _ _ fun nx => ?_; clear hK K; try clear kk
  by_cases h1 : (decide ((s_1.length : Int) ≤ (40 : Int))) = true
  · rw [if_pos h1] at hh
    obtain ⟨formed_2, h2, hh⟩ := bind_ex hh
    refine awp_first fun K kk hK => ?_
    simp only [go_sem, h1, of_decide_eq_true h1, h1, of_decide_eq_true h1]
    (repeat refine sd ?_)
    refine step_call2 (diptychref1_formed_ok _ _ h2) (by (try simp only [go_sem, h1, of_decide_eq_true h1, h1, of_decide_eq_true h1]) <;> exact wkl) (by rfl) (by rfl) ?_
    simp only [go_sem, h1, of_decide_eq_true h1, h1, of_decide_eq_true h1]
    (repeat refine sd ?_)
    refine hK _ _ fun nx => ?_; clear hK K; try clear kk
    refine awp_ret ?_; refine nmx ?_
    obtain hR := Option.some.inj hh
    subst hR
    exact ret_p2
  · rw [if_neg h1] at hh
    replace h1 := Bool.eq_false_iff.mpr h1
    refine awp_first fun K kk hK => ?_
    simp only [go_sem, h1, of_decide_eq_false h1, h1, of_decide_eq_false h1]
    (repeat refine sd ?_)
    refine hK _ _ fun nx => ?_; clear hK K; try clear kk
    refine awp_ret ?_; refine nmx ?_
    obtain hR := Option.some.inj hh
    subst hR
    exact ret_p2
theorem diptychref1_Formed_grp : ∀ kr : Nat, (∀ (n_1 : api_Node) (R : Bool), diptychref1_Formed_k kr n_1 = some R → PC Tryz.prog 56 [.agg [.str n_1.Kind, .str n_1.Text, .list 1 (n_1.Marks.map PV.str), .list 2 (n_1.Attrs.map api_Attr.pv), .list 5 (n_1.Kids.map api_Node.pv)]] (.bool R)) := by
  intro kr
  induction kr with
  | zero => exact (by intro n_1 R hh; rw [diptychref1_Formed_k] at hh; cases hh)
  | succ kr ih =>
    have ih_diptychref1_Formed := ih
    clear ih
    intro n_1 R hh
    rw [diptychref1_Formed_k] at hh
    refine start_diptychref1_Formed rfl ?_
    refine awp_first fun K kk hK => ?_
    simp only [go_sem]
    refine hK _ _ fun nx => ?_; clear hK K; try clear kk
    refine awp_seq ?_
    refine awp_first fun K kk hK => ?_
    simp only [go_sem]
    refine hK _ _ fun nx => ?_; clear hK K; try clear kk
    by_cases h1 : (n_1.Kind == ([116, 101, 120, 116] : Str)) = true
    · rw [if_pos h1] at hh
      refine awp_true (by first | exact congrArg PV.bool h1 | rfl) ?_
      by_cases h2 : (!(n_1.Text == ([] : Str))) = true
      · rw [if_pos h2] at hh
        obtain ⟨formed_2, h3, hh⟩ := bind_ex hh
        by_cases h4 : (formed_2) = true
        · rw [if_pos h4] at hh
          obtain ⟨rise_3, h5, hh⟩ := bind_ex hh
          by_cases h6 : (rise_3) = true
          · rw [if_pos h6] at hh
            by_cases h7 : ((n_1.Attrs.length : Int) == (0 : Int)) = true
            · rw [if_pos h7] at hh
              refine awp_first fun K kk hK => ?_
              simp only [go_sem, h2, h2, h4, h4, h6, h6, h7, h7]
              (repeat refine sd ?_)
              refine step_call2 (diptychref1_formed_ok _ _ h3) (by (try simp only [go_sem, h2, h2, h4, h4, h6, h6, h7, h7]) <;> exact wkl) (by rfl) (by rfl) ?_
              simp only [go_sem, h2, h2, h4, h4, h6, h6, h7, h7]
              (repeat refine sd ?_)
              refine step_call2 (diptychref1_rise_ok _ _ h5) (by (try simp only [go_sem, h2, h2, h4, h4, h6, h6, h7, h7]) <;> exact wkl) (by rfl) (by rfl) ?_
              simp only [go_sem, h2, h2, h4, h4, h6, h6, h7, h7]
              (repeat refine sd ?_)
              refine hK _ _ fun nx => ?_; clear hK K; try clear kk
              refine awp_ret ?_; refine nmx ?_
              obtain hR := Option.some.inj hh
              subst hR
              exact ret_p2
            · rw [if_neg h7] at hh
              replace h7 := Bool.eq_false_iff.mpr h7
              refine awp_first fun K kk hK => ?_
              simp only [go_sem, h2, h2, h4, h4, h6, h6, h7, h7]
              (repeat refine sd ?_)
              refine step_call2 (diptychref1_formed_ok _ _ h3) (by (try simp only [go_sem, h2, h2, h4, h4, h6, h6, h7, h7]) <;> exact wkl) (by rfl) (by rfl) ?_
              simp only [go_sem, h2, h2, h4, h4, h6, h6, h7, h7]
              (repeat refine sd ?_)
              refine step_call2 (diptychref1_rise_ok _ _ h5) (by (try simp only [go_sem, h2, h2, h4, h4, h6, h6, h7, h7]) <;> exact wkl) (by rfl) (by rfl) ?_
              simp only [go_sem, h2, h2, h4, h4, h6, h6, h7, h7]
              (repeat refine sd ?_)
              refine hK _ _ fun nx => ?_; clear hK K; try clear kk
              refine awp_ret ?_; refine nmx ?_
              obtain hR := Option.some.inj hh
              subst hR
              exact ret_p2
          · rw [if_neg h6] at hh
            replace h6 := Bool.eq_false_iff.mpr h6
            refine awp_first fun K kk hK => ?_
            simp only [go_sem, h2, h2, h4, h4, h6, h6]
            (repeat refine sd ?_)
            refine step_call2 (diptychref1_formed_ok _ _ h3) (by (try simp only [go_sem, h2, h2, h4, h4, h6, h6]) <;> exact wkl) (by rfl) (by rfl) ?_
            simp only [go_sem, h2, h2, h4, h4, h6, h6]
            (repeat refine sd ?_)
            refine step_call2 (diptychref1_rise_ok _ _ h5) (by (try simp only [go_sem, h2, h2, h4, h4, h6, h6]) <;> exact wkl) (by rfl) (by rfl) ?_
            simp only [go_sem, h2, h2, h4, h4, h6, h6]
            (repeat refine sd ?_)
            refine hK _ _ fun nx => ?_; clear hK K; try clear kk
            refine awp_ret ?_; refine nmx ?_
            obtain hR := Option.some.inj hh
            subst hR
            exact ret_p2
        · rw [if_neg h4] at hh
          replace h4 := Bool.eq_false_iff.mpr h4
          refine awp_first fun K kk hK => ?_
          simp only [go_sem, h2, h2, h4, h4]
          (repeat refine sd ?_)
          refine step_call2 (diptychref1_formed_ok _ _ h3) (by (try simp only [go_sem, h2, h2, h4, h4]) <;> exact wkl) (by rfl) (by rfl) ?_
          simp only [go_sem, h2, h2, h4, h4]
          (repeat refine sd ?_)
          refine hK _ _ fun nx => ?_; clear hK K; try clear kk
          refine awp_ret ?_; refine nmx ?_
          obtain hR := Option.some.inj hh
          subst hR
          exact ret_p2
      · rw [if_neg h2] at hh
        replace h2 := Bool.eq_false_iff.mpr h2
        refine awp_first fun K kk hK => ?_
        simp only [go_sem, h2, h2]
        (repeat refine sd ?_)
        refine hK _ _ fun nx => ?_; clear hK K; try clear kk
        refine awp_ret ?_; refine nmx ?_
        obtain hR := Option.some.inj hh
        subst hR
        exact ret_p2
    · rw [if_neg h1] at hh
      replace h1 := Bool.eq_false_iff.mpr h1
      refine awp_false (by first | exact congrArg PV.bool h1 | rfl) ?_
      refine awp_skip ?_; refine nmx ?_
      refine awp_first fun K kk hK => ?_
      simp only [go_sem]
      refine hK _ _ fun nx => ?_; clear hK K; try clear kk
      refine awp_seq ?_
      refine awp_first fun K kk hK => ?_
      simp only [go_sem]
      refine hK _ _ fun nx => ?_; clear hK K; try clear kk
      obtain ⟨e0, f0, hh⟩ := bind_ex hh
      obtain ⟨hlen0, f0⟩ := chk_some f0
      refine awp_fragE (CutTo (fun s => ∃ names_18, .inr names_18 = e0 ∧ ∃ (i_16 : Int) (v_17 : Bool) (nx : Nat) (g1 : Nat) (g3 : Nat), s = ⟨[(1, .box 1 g1 0), (3, .row 3 g3 names_18.length), (4, .int .i64 i_16), (38, .bool v_17)], [(1, g1, .var 28 [.str n_1.Kind, .str n_1.Text, .list 1 (n_1.Marks.map PV.str), .list 2 (n_1.Attrs.map api_Attr.pv), .list 5 (n_1.Kids.map api_Node.pv)]), (3, g3, .row false 1 (names_18.map PV.str))], nx⟩))
        (fun i s => False)
        (fun s => ∃ res_15, .inl res_15 = e0 ∧ bodyR Tryz.prog [.tmp 2] (.bool res_15) [] .ret s) ?_ ?_ ?_ ?_
      · refine awp_block ?_
        refine awp_loopJ fun I hI => ?_
        have key : ∀ (suf pre : List api_Attr) (i_7 : Int) (names_8 : (List Str)), n_1.Attrs = pre ++ suf → i_7 = (pre.length : Int) → diptychref1_Formed_l0 suf i_7 names_8 = some e0 → ∀ (nx : Nat) (g1 : Nat) (g3 : Nat), I ⟨[(1, .box 1 g1 0), (3, .row 3 g3 names_8.length), (4, .int .i64 i_7)], [(1, g1, .var 28 [.str n_1.Kind, .str n_1.Text, .list 1 (n_1.Marks.map PV.str), .list 2 (n_1.Attrs.map api_Attr.pv), .list 5 (n_1.Kids.map api_Node.pv)]), (3, g3, .row false 1 (names_8.map PV.str))], nx⟩ := by
          intro suf
          induction suf with
          | nil =>
            intro pre i_7 names_8 hsplit hidx hh nx g1 g3
            rw [diptychref1_Formed_l0] at hh
            refine hI _ ?_
            have h18 := walk_nil hsplit hidx
            refine awp_seq ?_
            refine awp_first fun K kk hK => ?_
            simp only [go_sem]
            refine hK _ _ fun nx => ?_; clear hK K; try clear kk
            refine awp_false (by first | exact congrArg PV.bool h18 | rfl) ?_
            refine awp_exit ?_; refine nmx ?_
            refine fragN ?_
            refine cut_id ?_
            refine ⟨_, (Option.some.inj hh), ?_⟩
            first | exact ⟨_, _, _, _, _, rfl⟩ | (simp only [api_Attr.pv_eq, api_Node.pv_eq, step_Step.pv_eq, diptychref11_Step.pv_eq, pvL, List.map_cons, List.map_nil, List.map_append, rune1]; exact ⟨_, _, _, _, _, rfl⟩) | (simp only [api_Attr.pv_eq, api_Node.pv_eq, step_Step.pv_eq, diptychref11_Step.pv_eq, pvL, List.map_cons, List.map_nil, List.map_append, rune1, h1, h18]; exact ⟨_, _, _, _, _, rfl⟩)
          | cons y_12 suf ih =>
            intro pre i_7 names_8 hsplit hidx hh nx g1 g3
            rw [diptychref1_Formed_l0] at hh
            refine hI _ ?_
            obtain ⟨hl0a, hl0b, hl0d, hl0w, h18⟩ := walk_cons (f := api_Attr.pv) hsplit hidx hlen0
            refine awp_seq ?_
            refine awp_first fun K kk hK => ?_
            simp only [go_sem]
            refine hK _ _ fun nx => ?_; clear hK K; try clear kk
            refine awp_true (by first | exact congrArg PV.bool h18 | rfl) ?_
            refine awp_skip ?_; refine nmx ?_
            refine awp_seq ?_
            refine awp_block ?_
            obtain ⟨l_13, h19, hh⟩ := bind_ex hh
            obtain ⟨h19a, h19c⟩ := app_some h19
            have h19d := app_map (f := PV.str) h19c
            have h19e := app_len h19c
            try simp only [List.length_cons, List.length_nil, Nat.zero_add, Nat.reduceAdd] at h19a h19e
            try simp only [h19e] at h19a
            try simp only [List.map_cons, List.map_nil, List.nil_append, List.append_nil, List.cons_append, List.singleton_append, rune1, api_Attr.pv_eq, api_Node.pv_eq, step_Step.pv_eq, diptychref11_Step.pv_eq, pvL] at h19d
            refine awp_first fun K kk hK => ?_
            simp only [go_sem, h19a, h19d, h19e, hl0a, hl0b, hl0d, hl0w]
            (repeat refine sd ?_)
            refine hK _ _ fun nx => ?_; clear hK K; try clear kk
            obtain ⟨value_14, h20, hh⟩ := bind_ex hh
            refine awp_first fun K kk hK => ?_
            simp only [go_sem, hl0a, hl0b, hl0d, hl0w]
            refine step_call2 (diptychref1_Value_ok _ _ h20) (by (try simp only [go_sem, hl0a, hl0b, hl0d, hl0w]) <;> exact wkl) (by rfl) (by rfl) ?_
            simp only [go_sem, hl0a, hl0b, hl0d, hl0w]
            refine hK _ _ fun nx => ?_; clear hK K; try clear kk
            by_cases h21 : (!value_14) = true
            · rw [if_pos h21] at hh
              refine awp_true (by first | exact congrArg PV.bool h21 | rfl) ?_
              refine awp_first fun K kk hK => ?_
              simp only [go_sem, hl0a, hl0b, hl0d, hl0w]
              refine hK _ _ fun nx => ?_; clear hK K; try clear kk
              refine awp_ret ?_; refine nmx ?_
              refine fragR ⟨_, (Option.some.inj hh), ?_⟩
              exact ret_p2
            · rw [if_neg h21] at hh
              replace h21 := Bool.eq_false_iff.mpr h21
              refine awp_false (by first | exact congrArg PV.bool h21 | rfl) ?_
              refine awp_skip ?_; refine nmx ?_
              refine awp_region fun K kk hK => ?_
              simp only [go_sem, hl0a, hl0b, hl0d, hl0w]
              refine hK _ _ fun nx => ?_; clear hK K; try clear kk
              refine nmx ?_
              have ih' := ih (pre ++ [y_12]) (i_7 + 1) _ (by rw [hsplit]; simp) (by simp [hidx]) hh nx
              refine cut_id ?_
              first | exact ih' _ _ | (simp only [api_Attr.pv_eq, api_Node.pv_eq, step_Step.pv_eq, diptychref11_Step.pv_eq, pvL, List.map_cons, List.map_nil, List.map_append, rune1, h19e] at ih' ⊢; exact ih' _ _) | (simp only [api_Attr.pv_eq, api_Node.pv_eq, step_Step.pv_eq, diptychref11_Step.pv_eq, pvL, List.map_cons, List.map_nil, List.map_append, rune1, h19e, h1, h18, h21] at ih' ⊢; exact ih' _ _)
        exact key n_1.Attrs [] _ _ rfl rfl f0 _ _ _
      · rintro s ⟨t, hless, names_18, rfl, i_16, v_17, nx, g1, g3, rfl⟩
        try dsimp only at hh
        refine nmy ?_
        first | (refine cut_less hless ?_; try refine cut_awp ?_) | refine frag_less hless ?_ | refine body_less hless ?_
        refine awp_seq ?_
        obtain ⟨name_19, h22, hh⟩ := bind_ex hh
        by_cases h23 : (!name_19) = true
        · rw [if_pos h23] at hh
          refine awp_first fun K kk hK => ?_
          simp only [go_sem, h23, h23]
          (repeat refine sd ?_)
          refine step_call2 (diptychref1_Name_ok _ _ h22) (by (try simp only [go_sem, h23, h23]) <;> exact wkl) (by rfl) (by rfl) ?_
          simp only [go_sem, h23, h23]
          (repeat refine sd ?_)
          refine hK _ _ fun nx => ?_; clear hK K; try clear kk
          refine awp_true rfl ?_
          refine awp_first fun K kk hK => ?_
          simp only [go_sem]
          refine hK _ _ fun nx => ?_; clear hK K; try clear kk
          refine awp_ret ?_; refine nmx ?_
          obtain hR := Option.some.inj hh
          subst hR
          exact ret_p2
        · rw [if_neg h23] at hh
          replace h23 := Bool.eq_false_iff.mpr h23
          by_cases h24 : (!(n_1.Text == ([] : Str))) = true
          · rw [if_pos h24] at hh
            refine awp_first fun K kk hK => ?_
            simp only [go_sem, h23, h23, h24, h24]
            (repeat refine sd ?_)
            refine step_call2 (diptychref1_Name_ok _ _ h22) (by (try simp only [go_sem, h23, h23, h24, h24]) <;> exact wkl) (by rfl) (by rfl) ?_
            simp only [go_sem, h23, h23, h24, h24]
            (repeat refine sd ?_)
            refine hK _ _ fun nx => ?_; clear hK K; try clear kk
            refine awp_true rfl ?_
            refine awp_first fun K kk hK => ?_
            simp only [go_sem]
            refine hK _ _ fun nx => ?_; clear hK K; try clear kk
            refine awp_ret ?_; refine nmx ?_
            obtain hR := Option.some.inj hh
            subst hR
            exact ret_p2
          · rw [if_neg h24] at hh
            replace h24 := Bool.eq_false_iff.mpr h24
            by_cases h25 : (decide ((n_1.Marks.length : Int) > (0 : Int))) = true
            · rw [if_pos h25] at hh
              refine awp_first fun K kk hK => ?_
              simp only [go_sem, h23, h23, h24, h24, h25, of_decide_eq_true h25, h25, of_decide_eq_true h25]
              (repeat refine sd ?_)
              refine step_call2 (diptychref1_Name_ok _ _ h22) (by (try simp only [go_sem, h23, h23, h24, h24, h25, of_decide_eq_true h25, h25, of_decide_eq_true h25]) <;> exact wkl) (by rfl) (by rfl) ?_
              simp only [go_sem, h23, h23, h24, h24, h25, of_decide_eq_true h25, h25, of_decide_eq_true h25]
              (repeat refine sd ?_)
              refine hK _ _ fun nx => ?_; clear hK K; try clear kk
              refine awp_true rfl ?_
              refine awp_first fun K kk hK => ?_
              simp only [go_sem]
              refine hK _ _ fun nx => ?_; clear hK K; try clear kk
              refine awp_ret ?_; refine nmx ?_
              obtain hR := Option.some.inj hh
              subst hR
              exact ret_p2
            · rw [if_neg h25] at hh
              replace h25 := Bool.eq_false_iff.mpr h25
              obtain ⟨rise_20, h26, hh⟩ := bind_ex hh
              refine awp_first fun K kk hK => ?_
              simp only [go_sem, h23, h23, h24, h24, h25, of_decide_eq_false h25, h25, of_decide_eq_false h25]
              (repeat refine sd ?_)
              refine step_call2 (diptychref1_Name_ok _ _ h22) (by (try simp only [go_sem, h23, h23, h24, h24, h25, of_decide_eq_false h25, h25, of_decide_eq_false h25]) <;> exact wkl) (by rfl) (by rfl) ?_
              simp only [go_sem, h23, h23, h24, h24, h25, of_decide_eq_false h25, h25, of_decide_eq_false h25]
              (repeat refine sd ?_)
              refine step_call2 (diptychref1_rise_ok _ _ h26) (by (try simp only [go_sem, h23, h23, h24, h24, h25, of_decide_eq_false h25, h25, of_decide_eq_false h25]) <;> exact wkl) (by rfl) (by rfl) ?_
              simp only [go_sem, h23, h23, h24, h24, h25, of_decide_eq_false h25, h25, of_decide_eq_false h25]
              (repeat refine sd ?_)
              refine hK _ _ fun nx => ?_; clear hK K; try clear kk
              by_cases h27 : (!rise_20) = true
              · rw [if_pos h27] at hh
                refine awp_true (by first | exact congrArg PV.bool h27 | rfl) ?_
                refine awp_first fun K kk hK => ?_
                simp only [go_sem]
                refine hK _ _ fun nx => ?_; clear hK K; try clear kk
                refine awp_ret ?_; refine nmx ?_
                obtain hR := Option.some.inj hh
                subst hR
                exact ret_p2
              · rw [if_neg h27] at hh
                replace h27 := Bool.eq_false_iff.mpr h27
                refine awp_false (by first | exact congrArg PV.bool h27 | rfl) ?_
                refine awp_skip ?_; refine nmx ?_
                refine awp_seq ?_
                refine awp_first fun K kk hK => ?_
                simp only [go_sem]
                refine hK _ _ fun nx => ?_; clear hK K; try clear kk
                obtain ⟨e1, f1, hh⟩ := bind_ex hh
                obtain ⟨hlen1, f1⟩ := chk_some f1
                refine awp_fragE (CutTo (fun s => .inr () = e1 ∧ ∃ (i_35 : Int) (v_36 : Bool) (nx : Nat) (g1 : Nat), s = ⟨[(1, .box 1 g1 0), (5, .int .i64 i_35), (82, .bool v_36)], [(1, g1, .var 28 [.str n_1.Kind, .str n_1.Text, .list 1 (n_1.Marks.map PV.str), .list 2 (n_1.Attrs.map api_Attr.pv), .list 5 (n_1.Kids.map api_Node.pv)])], nx⟩))
                  (fun i s => False)
                  (fun s => ∃ res_34, .inl res_34 = e1 ∧ bodyR Tryz.prog [.tmp 2] (.bool res_34) [] .ret s) ?_ ?_ ?_ ?_
                · refine awp_block ?_
                  refine awp_loopJ fun I hI => ?_
                  have key : ∀ (suf pre : List api_Node) (i_25 : Int), n_1.Kids = pre ++ suf → i_25 = (pre.length : Int) → diptychref1_Formed_l1 n_1 (diptychref1_Formed_k kr) suf i_25 = some e1 → ∀ (nx : Nat) (g1 : Nat), I ⟨[(1, .box 1 g1 0), (5, .int .i64 i_25)], [(1, g1, .var 28 [.str n_1.Kind, .str n_1.Text, .list 1 (n_1.Marks.map PV.str), .list 2 (n_1.Attrs.map api_Attr.pv), .list 5 (n_1.Kids.map api_Node.pv)])], nx⟩ := by
                    intro suf
                    induction suf with
                    | nil =>
                      intro pre i_25 hsplit hidx hh nx g1
                      rw [diptychref1_Formed_l1] at hh
                      refine hI _ ?_
                      have h48 := walk_nil hsplit hidx
                      refine awp_seq ?_
                      refine awp_first fun K kk hK => ?_
                      simp only [go_sem]
                      refine hK _ _ fun nx => ?_; clear hK K; try clear kk
                      refine awp_false (by first | exact congrArg PV.bool h48 | rfl) ?_
                      refine awp_exit ?_; refine nmx ?_
                      refine fragN ?_
                      refine cut_id ?_
                      refine ⟨(Option.some.inj hh), ?_⟩
                      first | exact ⟨_, _, _, _, rfl⟩ | (simp only [api_Attr.pv_eq, api_Node.pv_eq, step_Step.pv_eq, diptychref11_Step.pv_eq, pvL, List.map_cons, List.map_nil, List.map_append, rune1]; exact ⟨_, _, _, _, rfl⟩) | (simp only [api_Attr.pv_eq, api_Node.pv_eq, step_Step.pv_eq, diptychref11_Step.pv_eq, pvL, List.map_cons, List.map_nil, List.map_append, rune1, h1, h23, h24, h25, h27, h48]; exact ⟨_, _, _, _, rfl⟩)
                    | cons y_30 suf ih =>
                      intro pre i_25 hsplit hidx hh nx g1
                      rw [diptychref1_Formed_l1] at hh
                      refine hI _ ?_
                      obtain ⟨hl1a, hl1b, hl1d, hl1w, h48⟩ := walk_cons (f := api_Node.pv) hsplit hidx hlen1
                      refine awp_seq ?_
                      refine awp_first fun K kk hK => ?_
                      simp only [go_sem]
                      refine hK _ _ fun nx => ?_; clear hK K; try clear kk
                      refine awp_true (by first | exact congrArg PV.bool h48 | rfl) ?_
                      refine awp_skip ?_; refine nmx ?_
                      refine awp_seq ?_
                      refine awp_block ?_
                      obtain ⟨formed_31, h49, hh⟩ := bind_ex hh
                      by_cases h50 : (!formed_31) = true
                      · rw [if_pos h50] at hh
                        refine awp_first fun K kk hK => ?_
                        simp only [go_sem, h50, h50, hl1a, hl1b, hl1d, hl1w]
                        (repeat refine sd ?_)
                        refine step_call2 (ih_diptychref1_Formed _ _ h49) (by (try simp only [go_sem, h50, h50, hl1a, hl1b, hl1d, hl1w]) <;> exact wkl) (by rfl) (by rfl) ?_
                        simp only [go_sem, h50, h50, hl1a, hl1b, hl1d, hl1w]
                        (repeat refine sd ?_)
                        refine hK _ _ fun nx => ?_; clear hK K; try clear kk
                        refine awp_true rfl ?_
                        refine awp_first fun K kk hK => ?_
                        simp only [go_sem, hl1a, hl1b, hl1d, hl1w]
                        refine hK _ _ fun nx => ?_; clear hK K; try clear kk
                        refine awp_ret ?_; refine nmx ?_
                        refine fragR ⟨_, (Option.some.inj hh), ?_⟩
                        exact ret_p2
                      · rw [if_neg h50] at hh
                        replace h50 := Bool.eq_false_iff.mpr h50
                        by_cases h51 : (decide (i_25 > (0 : Int))) = true
                        · rw [if_pos h51] at hh
                          by_cases h52 : (y_30.Kind == ([116, 101, 120, 116] : Str)) = true
                          · rw [if_pos h52] at hh
                            obtain ⟨x_32, h53, hh⟩ := bind_ex hh
                            obtain ⟨h53a, h53b, h53c⟩ := rd_some h53
                            have h53d := rd_get (f := api_Node.pv) h53c
                            have h53f := rd_more (f := api_Node.pv) h53c
                            try simp only [Int.toNat_natCast, Int.reduceToNat] at h53d h53f
                            by_cases h54 : (x_32.Kind == ([116, 101, 120, 116] : Str)) = true
                            · rw [if_pos h54] at hh
                              obtain ⟨samena_33, h55, hh⟩ := bind_ex hh
                              refine awp_first fun K kk hK => ?_
                              simp only [go_sem, h50, h51, of_decide_eq_true h51, h51, of_decide_eq_true h51, h52, h53a, h53b, h53d, h53f.1, h53f.2, h52, h54, h53a, h53b, h53d, h53f.1, h53f.2, h54, h50, hl1a, hl1b, hl1d, hl1w]
                              (repeat refine sd ?_)
                              refine step_call2 (ih_diptychref1_Formed _ _ h49) (by (try simp only [go_sem, h50, h51, of_decide_eq_true h51, h51, of_decide_eq_true h51, h52, h53a, h53b, h53d, h53f.1, h53f.2, h52, h54, h53a, h53b, h53d, h53f.1, h53f.2, h54, h50, hl1a, hl1b, hl1d, hl1w]) <;> exact wkl) (by rfl) (by rfl) ?_
                              simp only [go_sem, h50, h51, of_decide_eq_true h51, h51, of_decide_eq_true h51, h52, h53a, h53b, h53d, h53f.1, h53f.2, h52, h54, h53a, h53b, h53d, h53f.1, h53f.2, h54, h50, hl1a, hl1b, hl1d, hl1w]
                              (repeat refine sd ?_)
                              refine step_call2 (diptychref1_sameNames_ok _ _ _ h55) (by (try simp only [go_sem, h50, h51, of_decide_eq_true h51, h51, of_decide_eq_true h51, h52, h53a, h53b, h53d, h53f.1, h53f.2, h52, h54, h53a, h53b, h53d, h53f.1, h53f.2, h54, h50, hl1a, hl1b, hl1d, hl1w]) <;> exact wkl) (by rfl) (by rfl) ?_
                              simp only [go_sem, h50, h51, of_decide_eq_true h51, h51, of_decide_eq_true h51, h52, h53a, h53b, h53d, h53f.1, h53f.2, h52, h54, h53a, h53b, h53d, h53f.1, h53f.2, h54, h50, hl1a, hl1b, hl1d, hl1w]
                              (repeat refine sd ?_)
                              refine hK _ _ fun nx => ?_; clear hK K; try clear kk
                              by_cases h56 : (samena_33) = true
                              · rw [if_pos h56] at hh
                                refine awp_true (by first | exact congrArg PV.bool h56 | rfl) ?_
                                refine awp_first fun K kk hK => ?_
                                simp only [go_sem, hl1a, hl1b, hl1d, hl1w]
                                refine hK _ _ fun nx => ?_; clear hK K; try clear kk
                                refine awp_ret ?_; refine nmx ?_
                                refine fragR ⟨_, (Option.some.inj hh), ?_⟩
                                exact ret_p2
                              · rw [if_neg h56] at hh
                                replace h56 := Bool.eq_false_iff.mpr h56
                                refine awp_false (by first | exact congrArg PV.bool h56 | rfl) ?_
                                refine awp_skip ?_; refine nmx ?_
                                refine awp_region fun K kk hK => ?_
                                simp only [go_sem, hl1a, hl1b, hl1d, hl1w]
                                refine hK _ _ fun nx => ?_; clear hK K; try clear kk
                                refine nmx ?_
                                have ih' := ih (pre ++ [y_30]) (i_25 + 1) (by rw [hsplit]; simp) (by simp [hidx]) hh nx
                                refine cut_id ?_
                                first | exact ih' _ | (simp only [api_Attr.pv_eq, api_Node.pv_eq, step_Step.pv_eq, diptychref11_Step.pv_eq, pvL, List.map_cons, List.map_nil, List.map_append, rune1] at ih' ⊢; exact ih' _) | (simp only [api_Attr.pv_eq, api_Node.pv_eq, step_Step.pv_eq, diptychref11_Step.pv_eq, pvL, List.map_cons, List.map_nil, List.map_append, rune1, h1, h23, h24, h25, h27, h48, h50, h51, h52, h54, h56] at ih' ⊢; exact ih' _)
                            · rw [if_neg h54] at hh
                              replace h54 := Bool.eq_false_iff.mpr h54
                              refine awp_first fun K kk hK => ?_
                              simp only [go_sem, h50, h51, of_decide_eq_true h51, h51, of_decide_eq_true h51, h52, h53a, h53b, h53d, h53f.1, h53f.2, h52, h54, h54, h50, hl1a, hl1b, hl1d, hl1w]
                              (repeat refine sd ?_)
                              refine step_call2 (ih_diptychref1_Formed _ _ h49) (by (try simp only [go_sem, h50, h51, of_decide_eq_true h51, h51, of_decide_eq_true h51, h52, h53a, h53b, h53d, h53f.1, h53f.2, h52, h54, h54, h50, hl1a, hl1b, hl1d, hl1w]) <;> exact wkl) (by rfl) (by rfl) ?_
                              simp only [go_sem, h50, h51, of_decide_eq_true h51, h51, of_decide_eq_true h51, h52, h53a, h53b, h53d, h53f.1, h53f.2, h52, h54, h54, h50, hl1a, hl1b, hl1d, hl1w]
                              (repeat refine sd ?_)
                              refine hK _ _ fun nx => ?_; clear hK K; try clear kk
                              refine awp_false rfl ?_
                              refine awp_skip ?_; refine nmx ?_
                              refine awp_region fun K kk hK => ?_
                              simp only [go_sem, hl1a, hl1b, hl1d, hl1w]
                              refine hK _ _ fun nx => ?_; clear hK K; try clear kk
                              refine nmx ?_
                              have ih' := ih (pre ++ [y_30]) (i_25 + 1) (by rw [hsplit]; simp) (by simp [hidx]) hh nx
                              refine cut_id ?_
                              first | exact ih' _ | (simp only [api_Attr.pv_eq, api_Node.pv_eq, step_Step.pv_eq, diptychref11_Step.pv_eq, pvL, List.map_cons, List.map_nil, List.map_append, rune1] at ih' ⊢; exact ih' _) | (simp only [api_Attr.pv_eq, api_Node.pv_eq, step_Step.pv_eq, diptychref11_Step.pv_eq, pvL, List.map_cons, List.map_nil, List.map_append, rune1, h1, h23, h24, h25, h27, h48, h50, h51, h52, h54] at ih' ⊢; exact ih' _)
                          · rw [if_neg h52] at hh
                            replace h52 := Bool.eq_false_iff.mpr h52
                            refine awp_first fun K kk hK => ?_
                            simp only [go_sem, h50, h51, of_decide_eq_true h51, h51, of_decide_eq_true h51, h52, h52, h50, hl1a, hl1b, hl1d, hl1w]
                            (repeat refine sd ?_)
                            refine step_call2 (ih_diptychref1_Formed _ _ h49) (by (try simp only [go_sem, h50, h51, of_decide_eq_true h51, h51, of_decide_eq_true h51, h52, h52, h50, hl1a, hl1b, hl1d, hl1w]) <;> exact wkl) (by rfl) (by rfl) ?_
                            simp only [go_sem, h50, h51, of_decide_eq_true h51, h51, of_decide_eq_true h51, h52, h52, h50, hl1a, hl1b, hl1d, hl1w]
                            (repeat refine sd ?_)
                            refine hK _ _ fun nx => ?_; clear hK K; try clear kk
                            refine awp_false rfl ?_
                            refine awp_skip ?_; refine nmx ?_
                            refine awp_region fun K kk hK => ?_
                            simp only [go_sem, hl1a, hl1b, hl1d, hl1w]
                            refine hK _ _ fun nx => ?_; clear hK K; try clear kk
                            refine nmx ?_
                            have ih' := ih (pre ++ [y_30]) (i_25 + 1) (by rw [hsplit]; simp) (by simp [hidx]) hh nx
                            refine cut_id ?_
                            first | exact ih' _ | (simp only [api_Attr.pv_eq, api_Node.pv_eq, step_Step.pv_eq, diptychref11_Step.pv_eq, pvL, List.map_cons, List.map_nil, List.map_append, rune1] at ih' ⊢; exact ih' _) | (simp only [api_Attr.pv_eq, api_Node.pv_eq, step_Step.pv_eq, diptychref11_Step.pv_eq, pvL, List.map_cons, List.map_nil, List.map_append, rune1, h1, h23, h24, h25, h27, h48, h50, h51, h52] at ih' ⊢; exact ih' _)
                        · rw [if_neg h51] at hh
                          replace h51 := Bool.eq_false_iff.mpr h51
                          refine awp_first fun K kk hK => ?_
                          simp only [go_sem, h50, h51, of_decide_eq_false h51, h51, of_decide_eq_false h51, h50, hl1a, hl1b, hl1d, hl1w]
                          (repeat refine sd ?_)
                          refine step_call2 (ih_diptychref1_Formed _ _ h49) (by (try simp only [go_sem, h50, h51, of_decide_eq_false h51, h51, of_decide_eq_false h51, h50, hl1a, hl1b, hl1d, hl1w]) <;> exact wkl) (by rfl) (by rfl) ?_
                          simp only [go_sem, h50, h51, of_decide_eq_false h51, h51, of_decide_eq_false h51, h50, hl1a, hl1b, hl1d, hl1w]
                          (repeat refine sd ?_)
                          refine hK _ _ fun nx => ?_; clear hK K; try clear kk
                          refine awp_false rfl ?_
                          refine awp_skip ?_; refine nmx ?_
                          refine awp_region fun K kk hK => ?_
                          simp only [go_sem, hl1a, hl1b, hl1d, hl1w]
                          refine hK _ _ fun nx => ?_; clear hK K; try clear kk
                          refine nmx ?_
                          have ih' := ih (pre ++ [y_30]) (i_25 + 1) (by rw [hsplit]; simp) (by simp [hidx]) hh nx
                          refine cut_id ?_
                          first | exact ih' _ | (simp only [api_Attr.pv_eq, api_Node.pv_eq, step_Step.pv_eq, diptychref11_Step.pv_eq, pvL, List.map_cons, List.map_nil, List.map_append, rune1] at ih' ⊢; exact ih' _) | (simp only [api_Attr.pv_eq, api_Node.pv_eq, step_Step.pv_eq, diptychref11_Step.pv_eq, pvL, List.map_cons, List.map_nil, List.map_append, rune1, h1, h23, h24, h25, h27, h48, h50, h51] at ih' ⊢; exact ih' _)
                  exact key n_1.Kids [] _ rfl rfl f1 _ _
                · rintro s ⟨t, hless, rfl, i_35, v_36, nx, g1, rfl⟩
                  try dsimp only at hh
                  refine nmy ?_
                  first | (refine cut_less hless ?_; try refine cut_awp ?_) | refine frag_less hless ?_ | refine body_less hless ?_
                  refine awp_first fun K kk hK => ?_
                  simp only [go_sem]
                  refine hK _ _ fun nx => ?_; clear hK K; try clear kk
                  refine awp_ret ?_; refine nmx ?_
                  obtain hR := Option.some.inj hh
                  subst hR
                  exact ret_p2
                · intro i s h; exact h.elim
                · rintro s ⟨res_34, rfl, hb⟩
                  try dsimp only at hh
                  obtain hR := Option.some.inj hh
                  subst hR
                  refine nmx ?_
                  exact hb
      · intro i s h; exact h.elim
      · rintro s ⟨res_15, rfl, hb⟩
        try dsimp only at hh
        obtain hR := Option.some.inj hh
        subst hR
        refine nmx ?_
        exact hb
theorem diptychref1_Formed_ok (n_1 : api_Node) (R : Bool) (hh : diptychref1_Formed n_1 = some R) : PC Tryz.prog 56 [.agg [.str n_1.Kind, .str n_1.Text, .list 1 (n_1.Marks.map PV.str), .list 2 (n_1.Attrs.map api_Attr.pv), .list 5 (n_1.Kids.map api_Node.pv)]] (.bool R) := by
  rw [diptychref1_Formed] at hh
  obtain ⟨kr, hh⟩ := lim_some hh
  exact (diptychref1_Formed_grp kr) _ _ hh

end Go.Proofs.YtclohbgnaopjfaaGreatDoor
