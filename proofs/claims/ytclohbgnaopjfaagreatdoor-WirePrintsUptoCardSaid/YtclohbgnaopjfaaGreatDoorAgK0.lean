/- What the functions answer, the program answers (0). -/
import Derived.Test.YtclohbgnaopjfaaGreatDoorAgC
import Derived.Test.YtclohbgnaopjfaaGreatDoorAgF
import Derived.Test.YtclohbgnaopjfaaGreatDoorAgL
namespace Go.Proofs.YtclohbgnaopjfaaGreatDoor
set_option linter.unusedSimpArgs false
set_option linter.unusedVariables false
open Go
set_option maxRecDepth 100000

theorem node_isText_ok (n_1 : api_Node) (R : Bool) (hh : node_isText n_1 = some R) : PC Tryz.prog 107 [.agg [.str n_1.Kind, .str n_1.Text, .list 1 (n_1.Marks.map PV.str), .list 2 (n_1.Attrs.map api_Attr.pv), .list 5 (n_1.Kids.map api_Node.pv)]] (.bool R) := by
  rw [node_isText] at hh
  refine start_node_isText rfl ?_
  refine awp_first fun K kk hK => ?_
  simp only [go_sem]
  refine hK _ _ fun nx => ?_; clear hK K; try clear kk
  refine awp_first fun K kk hK => ?_
  simp only [go_sem]
  refine hK _ _ fun nx => ?_; clear hK K; try clear kk
  refine awp_ret ?_; refine nmx ?_
  obtain hR := Option.some.inj hh
  subst hR
  exact ret_p2
theorem unicode_utf8_RuneCountInString_ok (s_1 : Str) (R : Int) (hh : unicode_utf8_RuneCountInString s_1 = some R) : PC Tryz.prog 108 [.str s_1] (.int .i64 R) := by
  rw [unicode_utf8_RuneCountInString] at hh
  refine start_unicode_utf8_RuneCountInString rfl ?_
  refine awp_first fun K kk hK => ?_
  simp only [go_sem]
  refine hK _ _ fun nx => ?_; clear hK K; try clear kk
  refine awp_seq ?_
  refine awp_first fun K kk hK => ?_
  simp only [go_sem]
  refine hK _ _ fun nx => ?_; clear hK K; try clear kk
  obtain ⟨e0, f0, hh⟩ := bind_ex hh
  refine awp_fragE (CutTo (fun s => ∃ n_4, n_4 = e0 ∧ ∃ (v_5 : Nat) (nx : Nat) (g4 : Nat), s = ⟨[(2, .int .i64 n_4), (4, .box 4 g4 0), (6, .bool false)], [(4, g4, .iter s_1 v_5)], nx⟩))
    (fun i s => False)
    (fun s => False) ?_ ?_ ?_ ?_
  · refine awp_block ?_
    refine awp_loopJ fun I hI => ?_
    obtain ⟨k, f0⟩ := lim_some f0
    have key : ∀ (k : Nat) (n_2 : Int) (v_3 : Nat), unicode_utf8_RuneCountInString_l0 s_1 k n_2 v_3 = some e0 → ∀ (nx : Nat) (g4 : Nat), I ⟨[(2, .int .i64 n_2), (4, .box 4 g4 0)], [(4, g4, .iter s_1 v_3)], nx⟩ := by
      intro k
      induction k with
      | zero => intro n_2 v_3 hh; rw [unicode_utf8_RuneCountInString_l0] at hh; cases hh
      | succ k ih =>
        intro n_2 v_3 hh nx g4
        rw [unicode_utf8_RuneCountInString_l0] at hh
        refine hI _ ?_
        by_cases h2 : (decide (v_3 < s_1.length)) = true
        · rw [if_pos h2] at hh
          refine awp_first fun K kk hK => ?_
          simp only [go_sem, h2, of_decide_eq_true h2]
          (repeat refine sd ?_)
          refine hK _ _ fun nx => ?_; clear hK K; try clear kk
          refine awp_seq ?_
          refine awp_true rfl ?_
          refine awp_skip ?_; refine nmx ?_
          refine awp_block ?_
          refine awp_region fun K kk hK => ?_
          simp only [go_sem]
          refine hK _ _ fun nx => ?_; clear hK K; try clear kk
          refine nmx ?_
          have ih' := ih _ _ hh nx
          refine cut_id ?_
          first | exact ih' _ | (simp only [api_Attr.pv_eq, api_Node.pv_eq, step_Step.pv_eq, diptychref11_Step.pv_eq, pvL, List.map_cons, List.map_nil, List.map_append, rune1] at ih' ⊢; exact ih' _) | (simp only [api_Attr.pv_eq, api_Node.pv_eq, step_Step.pv_eq, diptychref11_Step.pv_eq, pvL, List.map_cons, List.map_nil, List.map_append, rune1, h2] at ih' ⊢; exact ih' _)
        · rw [if_neg h2] at hh
          replace h2 := Bool.eq_false_iff.mpr h2
          refine awp_first fun K kk hK => ?_
          simp only [go_sem, h2, of_decide_eq_false h2]
          (repeat refine sd ?_)
          refine hK _ _ fun nx => ?_; clear hK K; try clear kk
          refine awp_seq ?_
          refine awp_false rfl ?_
          refine awp_exit ?_; refine nmx ?_
          refine fragN ?_
          refine cut_id ?_
          refine ⟨_, (Option.some.inj hh), ?_⟩
          first | exact ⟨_, _, _, rfl⟩ | (simp only [api_Attr.pv_eq, api_Node.pv_eq, step_Step.pv_eq, diptychref11_Step.pv_eq, pvL, List.map_cons, List.map_nil, List.map_append, rune1]; exact ⟨_, _, _, rfl⟩) | (simp only [api_Attr.pv_eq, api_Node.pv_eq, step_Step.pv_eq, diptychref11_Step.pv_eq, pvL, List.map_cons, List.map_nil, List.map_append, rune1, h2]; exact ⟨_, _, _, rfl⟩)
    exact key _ _ _ f0 _ _
  · rintro s ⟨t, hless, n_4, rfl, v_5, nx, g4, rfl⟩
    try dsimp only at hh
    refine nmy ?_
    first | (refine cut_less hless ?_; try refine cut_awp ?_) | refine frag_less hless ?_ | refine body_less hless ?_
    refine awp_first fun K kk hK => ?_
    simp only [go_sem]
    refine hK _ _ fun nx => ?_; clear hK K; try clear kk
    refine awp_ret ?_; refine nmx ?_
    obtain hR := Option.some.inj hh
    subst hR
    exact ret_p2
  · intro i s h; exact h.elim
  · intro s h; exact h.elim
theorem node_Total_grp : ∀ kr : Nat, (∀ (l_1 : (List api_Node)) (R : Int), node_Total_k kr l_1 = some R → PC Tryz.prog 34 [.list 5 (l_1.map api_Node.pv)] (.int .i64 R)) ∧
    (∀ (n_1 : api_Node) (R : Int), node_Size_k kr n_1 = some R → PC Tryz.prog 68 [.agg [.str n_1.Kind, .str n_1.Text, .list 1 (n_1.Marks.map PV.str), .list 2 (n_1.Attrs.map api_Attr.pv), .list 5 (n_1.Kids.map api_Node.pv)]] (.int .i64 R)) := by
  intro kr
  induction kr with
  | zero => exact ⟨(by intro l_1 R hh; rw [node_Total_k] at hh; cases hh), (by intro n_1 R hh; rw [node_Size_k] at hh; cases hh)⟩
  | succ kr ih =>
    obtain ⟨ih_node_Total, ih_node_Size⟩ := ih
    refine ⟨?_, ?_⟩
    · intro l_1 R hh
      rw [node_Total_k] at hh
      refine start_node_Total rfl ?_
      refine awp_first fun K kk hK => ?_
      simp only [go_sem]
      refine hK _ _ fun nx => ?_; clear hK K; try clear kk
      refine awp_first fun K kk hK => ?_
      simp only [go_sem]
      refine hK _ _ fun nx => ?_; clear hK K; try clear kk
      refine awp_seq ?_
      refine awp_first fun K kk hK => ?_
      simp only [go_sem]
      refine hK _ _ fun nx => ?_; clear hK K; try clear kk
      obtain ⟨e0, f0, hh⟩ := bind_ex hh
      obtain ⟨hlen0, f0⟩ := chk_some f0
      refine awp_fragE (CutTo (fun s => ∃ many_10, many_10 = e0 ∧ ∃ (v_11 : Int) (v_12 : Bool) (nx : Nat), s = ⟨[(3, .int .i64 many_10), (6, .list 5 (l_1.map api_Node.pv)), (7, .int .i64 (l_1.length : Int)), (8, .int .i64 v_11), (9, .bool v_12)], [], nx⟩))
        (fun i s => False)
        (fun s => False) ?_ ?_ ?_ ?_
      · refine awp_block ?_
        refine awp_loopJ fun I hI => ?_
        have key : ∀ (suf pre : List api_Node) (v_5 : Int) (many_4 : Int), l_1 = pre ++ suf → v_5 = (pre.length : Int) → node_Total_l0 (node_Size_k kr) suf v_5 many_4 = some e0 → ∀ (nx : Nat), I ⟨[(3, .int .i64 many_4), (6, .list 5 (l_1.map api_Node.pv)), (7, .int .i64 (l_1.length : Int)), (8, .int .i64 v_5)], [], nx⟩ := by
          intro suf
          induction suf with
          | nil =>
            intro pre v_5 many_4 hsplit hidx hh nx
            rw [node_Total_l0] at hh
            refine hI _ ?_
            have h7 := walk_nil hsplit hidx
            refine awp_first fun K kk hK => ?_
            simp only [go_sem]
            refine hK _ _ fun nx => ?_; clear hK K; try clear kk
            refine awp_seq ?_
            refine awp_false (by first | exact congrArg PV.bool h7 | rfl) ?_
            refine awp_exit ?_; refine nmx ?_
            refine fragN ?_
            refine cut_id ?_
            refine ⟨_, (Option.some.inj hh), ?_⟩
            first | exact ⟨_, _, _, rfl⟩ | (simp only [api_Attr.pv_eq, api_Node.pv_eq, step_Step.pv_eq, diptychref11_Step.pv_eq, pvL, List.map_cons, List.map_nil, List.map_append, rune1]; exact ⟨_, _, _, rfl⟩) | (simp only [api_Attr.pv_eq, api_Node.pv_eq, step_Step.pv_eq, diptychref11_Step.pv_eq, pvL, List.map_cons, List.map_nil, List.map_append, rune1, h7]; exact ⟨_, _, _, rfl⟩)
          | cons y_8 suf ih =>
            intro pre v_5 many_4 hsplit hidx hh nx
            rw [node_Total_l0] at hh
            refine hI _ ?_
            obtain ⟨hl0a, hl0b, hl0d, hl0w, h7⟩ := walk_cons (f := api_Node.pv) hsplit hidx hlen0
            refine awp_first fun K kk hK => ?_
            simp only [go_sem]
            refine hK _ _ fun nx => ?_; clear hK K; try clear kk
            refine awp_seq ?_
            refine awp_true (by first | exact congrArg PV.bool h7 | rfl) ?_
            refine awp_skip ?_; refine nmx ?_
            refine awp_seq ?_
            refine awp_block ?_
            refine awp_first fun K kk hK => ?_
            simp only [go_sem, hl0a, hl0b, hl0d, hl0w]
            refine hK _ _ fun nx => ?_; clear hK K; try clear kk
            obtain ⟨size_9, h8, hh⟩ := bind_ex hh
            refine awp_region fun K kk hK => ?_
            simp only [go_sem, hl0a, hl0b, hl0d, hl0w]
            refine step_call2 (ih_node_Size _ _ h8) (by (try simp only [go_sem, hl0a, hl0b, hl0d, hl0w]) <;> exact wkl) (by rfl) (by rfl) ?_
            simp only [go_sem, hl0a, hl0b, hl0d, hl0w]
            refine hK _ _ fun nx => ?_; clear hK K; try clear kk
            refine nmx ?_
            refine awp_region fun K kk hK => ?_
            simp only [go_sem, hl0a, hl0b, hl0d, hl0w]
            refine hK _ _ fun nx => ?_; clear hK K; try clear kk
            refine nmx ?_
            have ih' := ih (pre ++ [y_8]) (v_5 + 1) _ (by rw [hsplit]; simp) (by simp [hidx]) hh nx
            refine cut_id ?_
            first | exact ih' | (simp only [api_Attr.pv_eq, api_Node.pv_eq, step_Step.pv_eq, diptychref11_Step.pv_eq, pvL, List.map_cons, List.map_nil, List.map_append, rune1] at ih' ⊢; exact ih') | (simp only [api_Attr.pv_eq, api_Node.pv_eq, step_Step.pv_eq, diptychref11_Step.pv_eq, pvL, List.map_cons, List.map_nil, List.map_append, rune1, h7] at ih' ⊢; exact ih')
        exact key l_1 [] _ _ rfl rfl f0 _
      · rintro s ⟨t, hless, many_10, rfl, v_11, v_12, nx, rfl⟩
        try dsimp only at hh
        refine nmy ?_
        first | (refine cut_less hless ?_; try refine cut_awp ?_) | refine frag_less hless ?_ | refine body_less hless ?_
        refine awp_first fun K kk hK => ?_
        simp only [go_sem]
        refine hK _ _ fun nx => ?_; clear hK K; try clear kk
        refine awp_ret ?_; refine nmx ?_
        obtain hR := Option.some.inj hh
        subst hR
        exact ret_p2
      · intro i s h; exact h.elim
      · intro s h; exact h.elim
    · intro n_1 R hh
      rw [node_Size_k] at hh
      refine start_node_Size rfl ?_
      refine awp_first fun K kk hK => ?_
      simp only [go_sem]
      refine hK _ _ fun nx => ?_; clear hK K; try clear kk
      refine awp_seq ?_
      obtain ⟨istext_2, h1, hh⟩ := bind_ex hh
      refine awp_first fun K kk hK => ?_
      simp only [go_sem]
      refine step_call2 (node_isText_ok _ _ h1) (by (try simp only [go_sem]) <;> exact wkl) (by rfl) (by rfl) ?_
      simp only [go_sem]
      refine hK _ _ fun nx => ?_; clear hK K; try clear kk
      by_cases h2 : (istext_2) = true
      · rw [if_pos h2] at hh
        refine awp_true (by first | exact congrArg PV.bool h2 | rfl) ?_
        obtain ⟨runeco_3, h3, hh⟩ := bind_ex hh
        refine awp_first fun K kk hK => ?_
        simp only [go_sem]
        refine step_call2 (unicode_utf8_RuneCountInString_ok _ _ h3) (by (try simp only [go_sem]) <;> exact wkl) (by rfl) (by rfl) ?_
        simp only [go_sem]
        refine hK _ _ fun nx => ?_; clear hK K; try clear kk
        refine awp_ret ?_; refine nmx ?_
        obtain hR := Option.some.inj hh
        subst hR
        exact ret_p2
      · rw [if_neg h2] at hh
        replace h2 := Bool.eq_false_iff.mpr h2
        refine awp_false (by first | exact congrArg PV.bool h2 | rfl) ?_
        refine awp_skip ?_; refine nmx ?_
        obtain ⟨total_4, h4, hh⟩ := bind_ex hh
        refine awp_first fun K kk hK => ?_
        simp only [go_sem]
        refine step_call2 (ih_node_Total _ _ h4) (by (try simp only [go_sem]) <;> exact wkl) (by rfl) (by rfl) ?_
        simp only [go_sem]
        refine hK _ _ fun nx => ?_; clear hK K; try clear kk
        refine awp_ret ?_; refine nmx ?_
        obtain hR := Option.some.inj hh
        subst hR
        exact ret_p2
theorem node_Total_ok (l_1 : (List api_Node)) (R : Int) (hh : node_Total l_1 = some R) : PC Tryz.prog 34 [.list 5 (l_1.map api_Node.pv)] (.int .i64 R) := by
  rw [node_Total] at hh
  obtain ⟨kr, hh⟩ := lim_some hh
  exact (node_Total_grp kr).1 _ _ hh
theorem node_Size_ok (n_1 : api_Node) (R : Int) (hh : node_Size n_1 = some R) : PC Tryz.prog 68 [.agg [.str n_1.Kind, .str n_1.Text, .list 1 (n_1.Marks.map PV.str), .list 2 (n_1.Attrs.map api_Attr.pv), .list 5 (n_1.Kids.map api_Node.pv)]] (.int .i64 R) := by
  rw [node_Size] at hh
  obtain ⟨kr, hh⟩ := lim_some hh
  exact (node_Total_grp kr).2 _ _ hh
theorem slices_Equal_string_ok (s1_1 : (List Str)) (s2_2 : (List Str)) (R : Bool) (hh : slices_Equal_string s1_1 s2_2 = some R) : PC Tryz.prog 138 [.list 1 (s1_1.map PV.str), .list 1 (s2_2.map PV.str)] (.bool R) := by
  rw [slices_Equal_string] at hh
  refine start_slices_Equal_string rfl ?_
  refine awp_first fun K kk hK => ?_
  simp only [go_sem]
  refine hK _ _ fun nx => ?_; clear hK K; try clear kk
  refine awp_seq ?_
  refine awp_first fun K kk hK => ?_
  simp only [go_sem]
  refine hK _ _ fun nx => ?_; clear hK K; try clear kk
  by_cases h1 : ((s1_1.length : Int) != (s2_2.length : Int)) = true
  · rw [if_pos h1] at hh
    refine awp_true (by first | exact congrArg PV.bool h1 | rfl) ?_
    refine awp_first fun K kk hK => ?_
    simp only [go_sem]
    refine hK _ _ fun nx => ?_; clear hK K; try clear kk
    refine awp_ret ?_; refine nmx ?_
    obtain hR := Option.some.inj hh
    subst hR
    exact ret_p2
  · rw [if_neg h1] at hh
    replace h1 := Bool.eq_false_iff.mpr h1
    refine awp_false (by first | exact congrArg PV.bool h1 | rfl) ?_
    refine awp_skip ?_; refine nmx ?_
    refine awp_seq ?_
    refine awp_first fun K kk hK => ?_
    simp only [go_sem]
    refine hK _ _ fun nx => ?_; clear hK K; try clear kk
    obtain ⟨e0, f0, hh⟩ := bind_ex hh
    obtain ⟨hlen0, f0⟩ := chk_some f0
    refine awp_fragE (CutTo (fun s => .inr () = e0 ∧ ∃ (v_11 : Int) (v_12 : Bool) (nx : Nat), s = ⟨[(0, .list 1 (s1_1.map PV.str)), (1, .list 1 (s2_2.map PV.str)), (12, .int .i64 (s1_1.length : Int)), (13, .int .i64 v_11), (14, .bool v_12)], [], nx⟩))
      (fun i s => False)
      (fun s => ∃ res_10, .inl res_10 = e0 ∧ bodyR Tryz.prog [.tmp 4] (.bool res_10) [] .ret s) ?_ ?_ ?_ ?_
    · refine awp_block ?_
      refine awp_loopJ fun I hI => ?_
      have key : ∀ (suf pre : List Str) (v_5 : Int), s1_1 = pre ++ suf → v_5 = (pre.length : Int) → slices_Equal_string_l0 s2_2 suf v_5 = some e0 → ∀ (nx : Nat), I ⟨[(0, .list 1 (s1_1.map PV.str)), (1, .list 1 (s2_2.map PV.str)), (12, .int .i64 (s1_1.length : Int)), (13, .int .i64 v_5)], [], nx⟩ := by
        intro suf
        induction suf with
        | nil =>
          intro pre v_5 hsplit hidx hh nx
          rw [slices_Equal_string_l0] at hh
          refine hI _ ?_
          have h10 := walk_nil hsplit hidx
          refine awp_first fun K kk hK => ?_
          simp only [go_sem]
          refine hK _ _ fun nx => ?_; clear hK K; try clear kk
          refine awp_seq ?_
          refine awp_false (by first | exact congrArg PV.bool h10 | rfl) ?_
          refine awp_exit ?_; refine nmx ?_
          refine fragN ?_
          refine cut_id ?_
          refine ⟨(Option.some.inj hh), ?_⟩
          first | exact ⟨_, _, _, rfl⟩ | (simp only [api_Attr.pv_eq, api_Node.pv_eq, step_Step.pv_eq, diptychref11_Step.pv_eq, pvL, List.map_cons, List.map_nil, List.map_append, rune1]; exact ⟨_, _, _, rfl⟩) | (simp only [api_Attr.pv_eq, api_Node.pv_eq, step_Step.pv_eq, diptychref11_Step.pv_eq, pvL, List.map_cons, List.map_nil, List.map_append, rune1, h1, h10]; exact ⟨_, _, _, rfl⟩)
        | cons y_8 suf ih =>
          intro pre v_5 hsplit hidx hh nx
          rw [slices_Equal_string_l0] at hh
          refine hI _ ?_
          obtain ⟨hl0a, hl0b, hl0d, hl0w, h10⟩ := walk_cons (f := PV.str) hsplit hidx hlen0
          refine awp_first fun K kk hK => ?_
          simp only [go_sem]
          refine hK _ _ fun nx => ?_; clear hK K; try clear kk
          refine awp_seq ?_
          refine awp_true (by first | exact congrArg PV.bool h10 | rfl) ?_
          refine awp_skip ?_; refine nmx ?_
          refine awp_seq ?_
          refine awp_block ?_
          refine awp_first fun K kk hK => ?_
          simp only [go_sem, hl0a, hl0b, hl0d, hl0w]
          refine hK _ _ fun nx => ?_; clear hK K; try clear kk
          obtain ⟨x_9, h11, hh⟩ := bind_ex hh
          obtain ⟨h11a, h11b, h11c⟩ := rd_some h11
          have h11d := rd_get (f := PV.str) h11c
          have h11f := rd_more (f := PV.str) h11c
          try simp only [Int.toNat_natCast, Int.reduceToNat] at h11d h11f
          refine awp_first fun K kk hK => ?_
          simp only [go_sem, h11a, h11b, h11d, h11f.1, h11f.2, hl0a, hl0b, hl0d, hl0w]
          (repeat refine sd ?_)
          refine hK _ _ fun nx => ?_; clear hK K; try clear kk
          by_cases h12 : (!(y_8 == x_9)) = true
          · rw [if_pos h12] at hh
            refine awp_true (by first | exact congrArg PV.bool h12 | rfl) ?_
            refine awp_first fun K kk hK => ?_
            simp only [go_sem, hl0a, hl0b, hl0d, hl0w]
            refine hK _ _ fun nx => ?_; clear hK K; try clear kk
            refine awp_ret ?_; refine nmx ?_
            refine fragR ⟨_, (Option.some.inj hh), ?_⟩
            exact ret_p2
          · rw [if_neg h12] at hh
            replace h12 := Bool.eq_false_iff.mpr h12
            refine awp_false (by first | exact congrArg PV.bool h12 | rfl) ?_
            refine awp_skip ?_; refine nmx ?_
            refine awp_region fun K kk hK => ?_
            simp only [go_sem, hl0a, hl0b, hl0d, hl0w]
            refine hK _ _ fun nx => ?_; clear hK K; try clear kk
            refine nmx ?_
            have ih' := ih (pre ++ [y_8]) (v_5 + 1) (by rw [hsplit]; simp) (by simp [hidx]) hh nx
            refine cut_id ?_
            first | exact ih' | (simp only [api_Attr.pv_eq, api_Node.pv_eq, step_Step.pv_eq, diptychref11_Step.pv_eq, pvL, List.map_cons, List.map_nil, List.map_append, rune1] at ih' ⊢; exact ih') | (simp only [api_Attr.pv_eq, api_Node.pv_eq, step_Step.pv_eq, diptychref11_Step.pv_eq, pvL, List.map_cons, List.map_nil, List.map_append, rune1, h1, h10, h12] at ih' ⊢; exact ih')
      exact key s1_1 [] _ rfl rfl f0 _
    · rintro s ⟨t, hless, rfl, v_11, v_12, nx, rfl⟩
      try dsimp only at hh
      refine nmy ?_
      first | (refine cut_less hless ?_; try refine cut_awp ?_) | refine frag_less hless ?_ | refine body_less hless ?_
      refine awp_first fun K kk hK => ?_
      simp only [go_sem]
      refine hK _ _ fun nx => ?_; clear hK K; try clear kk
      refine awp_ret ?_; refine nmx ?_
      obtain hR := Option.some.inj hh
      subst hR
      exact ret_p2
    · intro i s h; exact h.elim
    · rintro s ⟨res_10, rfl, hb⟩
      try dsimp only at hh
      obtain hR := Option.some.inj hh
      subst hR
      refine nmx ?_
      exact hb
theorem node_alike_ok (a_1 : api_Node) (b_2 : api_Node) (R : Bool) (hh : node_alike a_1 b_2 = some R) : PC Tryz.prog 113 [.agg [.str a_1.Kind, .str a_1.Text, .list 1 (a_1.Marks.map PV.str), .list 2 (a_1.Attrs.map api_Attr.pv), .list 5 (a_1.Kids.map api_Node.pv)], .agg [.str b_2.Kind, .str b_2.Text, .list 1 (b_2.Marks.map PV.str), .list 2 (b_2.Attrs.map api_Attr.pv), .list 5 (b_2.Kids.map api_Node.pv)]] (.bool R) := by
  rw [node_alike] at hh
  refine start_node_alike rfl ?_
  refine awp_first fun K kk hK => ?_
  simp only [go_sem]
  refine hK _ _ fun nx => ?_; clear hK K; try clear kk
  obtain ⟨istext_3, h1, hh⟩ := bind_ex hh
  by_cases h2 : (istext_3) = true
  · rw [if_pos h2] at hh
    obtain ⟨istext_4, h3, hh⟩ := bind_ex hh
    by_cases h4 : (istext_4) = true
    · rw [if_pos h4] at hh
      obtain ⟨string_5, h5, hh⟩ := bind_ex hh
      refine awp_first fun K kk hK => ?_
      simp only [go_sem, h2, h2, h4, h4]
      (repeat refine sd ?_)
      refine step_call2 (node_isText_ok _ _ h1) (by (try simp only [go_sem, h2, h2, h4, h4]) <;> exact wkl) (by rfl) (by rfl) ?_
      simp only [go_sem, h2, h2, h4, h4]
      (repeat refine sd ?_)
      refine step_call2 (node_isText_ok _ _ h3) (by (try simp only [go_sem, h2, h2, h4, h4]) <;> exact wkl) (by rfl) (by rfl) ?_
      simp only [go_sem, h2, h2, h4, h4]
      (repeat refine sd ?_)
      refine step_call2 (slices_Equal_string_ok _ _ _ h5) (by (try simp only [go_sem, h2, h2, h4, h4]) <;> exact wkl) (by rfl) (by rfl) ?_
      simp only [go_sem, h2, h2, h4, h4]
      (repeat refine sd ?_)
      refine hK _ _ fun nx => ?_; clear hK K; try clear kk
      refine awp_ret ?_; refine nmx ?_
      obtain hR := Option.some.inj hh
      subst hR
      exact ret_p2
    · rw [if_neg h4] at hh
      replace h4 := Bool.eq_false_iff.mpr h4
      refine awp_first fun K kk hK => ?_
      simp only [go_sem, h2, h2, h4, h4]
      (repeat refine sd ?_)
      refine step_call2 (node_isText_ok _ _ h1) (by (try simp only [go_sem, h2, h2, h4, h4]) <;> exact wkl) (by rfl) (by rfl) ?_
      simp only [go_sem, h2, h2, h4, h4]
      (repeat refine sd ?_)
      refine step_call2 (node_isText_ok _ _ h3) (by (try simp only [go_sem, h2, h2, h4, h4]) <;> exact wkl) (by rfl) (by rfl) ?_
      simp only [go_sem, h2, h2, h4, h4]
      (repeat refine sd ?_)
      refine hK _ _ fun nx => ?_; clear hK K; try clear kk
      refine awp_ret ?_; refine nmx ?_
      obtain hR := Option.some.inj hh
      subst hR
      exact ret_p2
  · rw [if_neg h2] at hh
    replace h2 := Bool.eq_false_iff.mpr h2
    refine awp_first fun K kk hK => ?_
    simp only [go_sem, h2, h2]
    (repeat refine sd ?_)
    refine step_call2 (node_isText_ok _ _ h1) (by (try simp only [go_sem, h2, h2]) <;> exact wkl) (by rfl) (by rfl) ?_
    simp only [go_sem, h2, h2]
    (repeat refine sd ?_)
    refine hK _ _ fun nx => ?_; clear hK K; try clear kk
    refine awp_ret ?_; refine nmx ?_
    obtain hR := Option.some.inj hh
    subst hR
    exact ret_p2
theorem strings_Trim_ok (s : Str) (cutset : Str) (R : Str) (hh : strings_Trim s cutset = some R) : PC Tryz.prog 97 [.str s, .str cutset] (.str R) := by
  rw [strings_Trim] at hh
  exact lib_trim (tr := Lib.trimS) ⟨_, Tryz.func97, by kernel_rfl, by kernel_rfl⟩ (fun s c w h1 h2 h3 => Any.strings_Trim_laid Tryz.lays160 (by kernel_rfl) s c w h1 h2 h3) s cutset R hh
theorem node_Name_ok (s_1 : Str) (R : Bool) (hh : node_Name s_1 = some R) : PC Tryz.prog 52 [.str s_1] (.bool R) := by
  rw [node_Name] at hh
  refine start_node_Name rfl ?_
  refine awp_first fun K kk hK => ?_
  simp only [go_sem]
  refine hK _ _ fun nx => ?_; clear hK K; try clear kk
  obtain ⟨trim_2, h1, hh⟩ := bind_ex hh
  refine awp_first fun K kk hK => ?_
  simp only [go_sem]
  refine step_call2 (strings_Trim_ok _ _ _ h1) (by (try simp only [go_sem]) <;> exact wkl) (by rfl) (by rfl) ?_
  simp only [go_sem]
  refine hK _ _ fun nx => ?_; clear hK K; try clear kk
  by_cases h2 : (trim_2 == ([] : Str)) = true
  · rw [if_pos h2] at hh
    by_cases h3 : (!(s_1 == ([] : Str))) = true
    · rw [if_pos h3] at hh
      by_cases h4 : (decide ((s_1.length : Int) ≤ (8 : Int))) = true
      · rw [if_pos h4] at hh
        refine awp_first fun K kk hK => ?_
        simp only [go_sem, h2, h2, h3, h3, h4, of_decide_eq_true h4, h4, of_decide_eq_true h4]
        (repeat refine sd ?_)
        refine hK _ _ fun nx => ?_; clear hK K; try clear kk
        refine awp_ret ?_; refine nmx ?_
        obtain hR := Option.some.inj hh
        subst hR
        exact ret_p2
      · rw [if_neg h4] at hh
        replace h4 := Bool.eq_false_iff.mpr h4
        refine awp_first fun K kk hK => ?_
        simp only [go_sem, h2, h2, h3, h3, h4, of_decide_eq_false h4, h4, of_decide_eq_false h4]
        (repeat refine sd ?_)
        refine hK _ _ fun nx => ?_; clear hK K; try clear kk
        refine awp_ret ?_; refine nmx ?_
        obtain hR := Option.some.inj hh
        subst hR
        exact ret_p2
    · rw [if_neg h3] at hh
      replace h3 := Bool.eq_false_iff.mpr h3
      refine awp_first fun K kk hK => ?_
      simp only [go_sem, h2, h2, h3, h3]
      (repeat refine sd ?_)
      refine hK _ _ fun nx => ?_; clear hK K; try clear kk
      refine awp_ret ?_; refine nmx ?_
      obtain hR := Option.some.inj hh
      subst hR
      exact ret_p2
  · rw [if_neg h2] at hh
    replace h2 := Bool.eq_false_iff.mpr h2
    refine awp_first fun K kk hK => ?_
    simp only [go_sem, h2, h2]
    (repeat refine sd ?_)
    refine hK _ _ fun nx => ?_; clear hK K; try clear kk
    refine awp_ret ?_; refine nmx ?_
    obtain hR := Option.some.inj hh
    subst hR
    exact ret_p2
theorem node_rise_ok (l_1 : (List Str)) (R : Bool) (hh : node_rise l_1 = some R) : PC Tryz.prog 126 [.list 1 (l_1.map PV.str)] (.bool R) := by
  rw [node_rise] at hh
  refine start_node_rise rfl ?_
  refine awp_first fun K kk hK => ?_
  simp only [go_sem]
  refine hK _ _ fun nx => ?_; clear hK K; try clear kk
  refine awp_seq ?_
  refine awp_first fun K kk hK => ?_
  simp only [go_sem]
  refine hK _ _ fun nx => ?_; clear hK K; try clear kk
  obtain ⟨e0, f0, hh⟩ := bind_ex hh
  obtain ⟨hlen0, f0⟩ := chk_some f0
  refine awp_fragE (CutTo (fun s => .inr () = e0 ∧ ∃ (v_13 : Int) (v_14 : Bool) (nx : Nat), s = ⟨[(0, .list 1 (l_1.map PV.str)), (5, .list 1 (l_1.map PV.str)), (6, .int .i64 (l_1.length : Int)), (7, .int .i64 v_13), (8, .bool v_14)], [], nx⟩))
    (fun i s => False)
    (fun s => ∃ res_12, .inl res_12 = e0 ∧ bodyR Tryz.prog [.tmp 2] (.bool res_12) [] .ret s) ?_ ?_ ?_ ?_
  · refine awp_block ?_
    refine awp_loopJ fun I hI => ?_
    have key : ∀ (suf pre : List Str) (v_5 : Int), l_1 = pre ++ suf → v_5 = (pre.length : Int) → node_rise_l0 l_1 suf v_5 = some e0 → ∀ (nx : Nat), I ⟨[(0, .list 1 (l_1.map PV.str)), (5, .list 1 (l_1.map PV.str)), (6, .int .i64 (l_1.length : Int)), (7, .int .i64 v_5)], [], nx⟩ := by
      intro suf
      induction suf with
      | nil =>
        intro pre v_5 hsplit hidx hh nx
        rw [node_rise_l0] at hh
        refine hI _ ?_
        have h15 := walk_nil hsplit hidx
        refine awp_first fun K kk hK => ?_
        simp only [go_sem]
        refine hK _ _ fun nx => ?_; clear hK K; try clear kk
        refine awp_seq ?_
        refine awp_false (by first | exact congrArg PV.bool h15 | rfl) ?_
        refine awp_exit ?_; refine nmx ?_
        refine fragN ?_
        refine cut_id ?_
        refine ⟨(Option.some.inj hh), ?_⟩
        first | exact ⟨_, _, _, rfl⟩ | (simp only [api_Attr.pv_eq, api_Node.pv_eq, step_Step.pv_eq, diptychref11_Step.pv_eq, pvL, List.map_cons, List.map_nil, List.map_append, rune1]; exact ⟨_, _, _, rfl⟩) | (simp only [api_Attr.pv_eq, api_Node.pv_eq, step_Step.pv_eq, diptychref11_Step.pv_eq, pvL, List.map_cons, List.map_nil, List.map_append, rune1, h15]; exact ⟨_, _, _, rfl⟩)
      | cons y_9 suf ih =>
        intro pre v_5 hsplit hidx hh nx
        rw [node_rise_l0] at hh
        refine hI _ ?_
        obtain ⟨hl0a, hl0b, hl0d, hl0w, h15⟩ := walk_cons (f := PV.str) hsplit hidx hlen0
        refine awp_first fun K kk hK => ?_
        simp only [go_sem]
        refine hK _ _ fun nx => ?_; clear hK K; try clear kk
        refine awp_seq ?_
        refine awp_true (by first | exact congrArg PV.bool h15 | rfl) ?_
        refine awp_skip ?_; refine nmx ?_
        refine awp_seq ?_
        refine awp_block ?_
        refine awp_first fun K kk hK => ?_
        simp only [go_sem, hl0a, hl0b, hl0d, hl0w]
        refine hK _ _ fun nx => ?_; clear hK K; try clear kk
        obtain ⟨name_10, h16, hh⟩ := bind_ex hh
        by_cases h17 : (!name_10) = true
        · rw [if_pos h17] at hh
          refine awp_first fun K kk hK => ?_
          simp only [go_sem, h17, h17, hl0a, hl0b, hl0d, hl0w]
          (repeat refine sd ?_)
          refine step_call2 (node_Name_ok _ _ h16) (by (try simp only [go_sem, h17, h17, hl0a, hl0b, hl0d, hl0w]) <;> exact wkl) (by rfl) (by rfl) ?_
          simp only [go_sem, h17, h17, hl0a, hl0b, hl0d, hl0w]
          (repeat refine sd ?_)
          refine hK _ _ fun nx => ?_; clear hK K; try clear kk
          refine awp_true rfl ?_
          refine awp_first fun K kk hK => ?_
          simp only [go_sem, hl0a, hl0b, hl0d, hl0w]
          refine hK _ _ fun nx => ?_; clear hK K; try clear kk
          refine awp_ret ?_; refine nmx ?_
          refine fragR ⟨_, (Option.some.inj hh), ?_⟩
          exact ret_p2
        · rw [if_neg h17] at hh
          replace h17 := Bool.eq_false_iff.mpr h17
          by_cases h18 : (decide (v_5 > (0 : Int))) = true
          · rw [if_pos h18] at hh
            obtain ⟨x_11, h19, hh⟩ := bind_ex hh
            obtain ⟨h19a, h19b, h19c⟩ := rd_some h19
            have h19d := rd_get (f := PV.str) h19c
            have h19f := rd_more (f := PV.str) h19c
            try simp only [Int.toNat_natCast, Int.reduceToNat] at h19d h19f
            refine awp_first fun K kk hK => ?_
            simp only [go_sem, h17, h18, of_decide_eq_true h18, h19a, h19b, h19d, h19f.1, h19f.2, h18, of_decide_eq_true h18, h17, hl0a, hl0b, hl0d, hl0w]
            (repeat refine sd ?_)
            refine step_call2 (node_Name_ok _ _ h16) (by (try simp only [go_sem, h17, h18, of_decide_eq_true h18, h19a, h19b, h19d, h19f.1, h19f.2, h18, of_decide_eq_true h18, h17, hl0a, hl0b, hl0d, hl0w]) <;> exact wkl) (by rfl) (by rfl) ?_
            simp only [go_sem, h17, h18, of_decide_eq_true h18, h19a, h19b, h19d, h19f.1, h19f.2, h18, of_decide_eq_true h18, h17, hl0a, hl0b, hl0d, hl0w]
            (repeat refine sd ?_)
            refine hK _ _ fun nx => ?_; clear hK K; try clear kk
            by_cases h20 : ((Op.bytesLess y_9 x_11 || y_9 == x_11)) = true
            · rw [if_pos h20] at hh
              refine awp_true (by first | exact congrArg PV.bool h20 | rfl) ?_
              refine awp_first fun K kk hK => ?_
              simp only [go_sem, hl0a, hl0b, hl0d, hl0w]
              refine hK _ _ fun nx => ?_; clear hK K; try clear kk
              refine awp_ret ?_; refine nmx ?_
              refine fragR ⟨_, (Option.some.inj hh), ?_⟩
              exact ret_p2
            · rw [if_neg h20] at hh
              replace h20 := Bool.eq_false_iff.mpr h20
              refine awp_false (by first | exact congrArg PV.bool h20 | rfl) ?_
              refine awp_skip ?_; refine nmx ?_
              refine awp_region fun K kk hK => ?_
              simp only [go_sem, hl0a, hl0b, hl0d, hl0w]
              refine hK _ _ fun nx => ?_; clear hK K; try clear kk
              refine nmx ?_
              have ih' := ih (pre ++ [y_9]) (v_5 + 1) (by rw [hsplit]; simp) (by simp [hidx]) hh nx
              refine cut_id ?_
              first | exact ih' | (simp only [api_Attr.pv_eq, api_Node.pv_eq, step_Step.pv_eq, diptychref11_Step.pv_eq, pvL, List.map_cons, List.map_nil, List.map_append, rune1] at ih' ⊢; exact ih') | (simp only [api_Attr.pv_eq, api_Node.pv_eq, step_Step.pv_eq, diptychref11_Step.pv_eq, pvL, List.map_cons, List.map_nil, List.map_append, rune1, h15, h17, h18, h20] at ih' ⊢; exact ih')
          · rw [if_neg h18] at hh
            replace h18 := Bool.eq_false_iff.mpr h18
            refine awp_first fun K kk hK => ?_
            simp only [go_sem, h17, h18, of_decide_eq_false h18, h18, of_decide_eq_false h18, h17, hl0a, hl0b, hl0d, hl0w]
            (repeat refine sd ?_)
            refine step_call2 (node_Name_ok _ _ h16) (by (try simp only [go_sem, h17, h18, of_decide_eq_false h18, h18, of_decide_eq_false h18, h17, hl0a, hl0b, hl0d, hl0w]) <;> exact wkl) (by rfl) (by rfl) ?_
            simp only [go_sem, h17, h18, of_decide_eq_false h18, h18, of_decide_eq_false h18, h17, hl0a, hl0b, hl0d, hl0w]
            (repeat refine sd ?_)
            refine hK _ _ fun nx => ?_; clear hK K; try clear kk
            refine awp_false rfl ?_
            refine awp_skip ?_; refine nmx ?_
            refine awp_region fun K kk hK => ?_
            simp only [go_sem, hl0a, hl0b, hl0d, hl0w]
            refine hK _ _ fun nx => ?_; clear hK K; try clear kk
            refine nmx ?_
            have ih' := ih (pre ++ [y_9]) (v_5 + 1) (by rw [hsplit]; simp) (by simp [hidx]) hh nx
            refine cut_id ?_
            first | exact ih' | (simp only [api_Attr.pv_eq, api_Node.pv_eq, step_Step.pv_eq, diptychref11_Step.pv_eq, pvL, List.map_cons, List.map_nil, List.map_append, rune1] at ih' ⊢; exact ih') | (simp only [api_Attr.pv_eq, api_Node.pv_eq, step_Step.pv_eq, diptychref11_Step.pv_eq, pvL, List.map_cons, List.map_nil, List.map_append, rune1, h15, h17, h18] at ih' ⊢; exact ih')
    exact key l_1 [] _ rfl rfl f0 _
  · rintro s ⟨t, hless, rfl, v_13, v_14, nx, rfl⟩
    try dsimp only at hh
    refine nmy ?_
    first | (refine cut_less hless ?_; try refine cut_awp ?_) | refine frag_less hless ?_ | refine body_less hless ?_
    refine awp_first fun K kk hK => ?_
    simp only [go_sem]
    refine hK _ _ fun nx => ?_; clear hK K; try clear kk
    refine awp_ret ?_; refine nmx ?_
    obtain hR := Option.some.inj hh
    subst hR
    exact ret_p2
  · intro i s h; exact h.elim
  · rintro s ⟨res_12, rfl, hb⟩
    try dsimp only at hh
    obtain hR := Option.some.inj hh
    subst hR
    refine nmx ?_
    exact hb
theorem unicode_utf8_ValidString_ok (s : Str) (R : Bool) (hh : unicode_utf8_ValidString s = some R) : PC Tryz.prog 98 [.str s] (.bool R) := by
  rw [unicode_utf8_ValidString] at hh
  exact lib_validString ⟨_, Tryz.func98, by kernel_rfl, by kernel_rfl⟩ (fun s w h1 h2 => Any.utf8_ValidString Tryz.lays196 s w h1 (gw_utf h2)) s R hh
theorem node_Value_ok (s_1 : Str) (R : Bool) (hh : node_Value s_1 = some R) : PC Tryz.prog 53 [.str s_1] (.bool R) := by
  rw [node_Value] at hh
  refine start_node_Value rfl ?_
  refine awp_first fun K kk hK => ?_
  simp only [go_sem]
  refine hK _ _ fun nx => ?_; clear hK K; try clear kk
  by_cases h1 : (decide ((s_1.length : Int) ≤ (40 : Int))) = true
  · rw [if_pos h1] at hh
    obtain ⟨valids_2, h2, hh⟩ := bind_ex hh
    refine awp_first fun K kk hK => ?_
    simp only [go_sem, h1, of_decide_eq_true h1, h1, of_decide_eq_true h1]
    (repeat refine sd ?_)
    refine step_call2 (unicode_utf8_ValidString_ok _ _ h2) (by (try simp only [go_sem, h1, of_decide_eq_true h1, h1, of_decide_eq_true h1]) <;> exact wkl) (by rfl) (by rfl) ?_
    simp only [go_sem, h1, of_decide_eq_true h1, h1, of_decide_eq_true h1]
    (repeat refine sd ?_)
    refine hK _ _ fun nx => ?_; clear hK K; try clear kk
    refine awp_ret ?_; refine nmx ?_
    obtain hR := Option.some.inj hh
    subst hR
    exact ret_p2
  · rw [if_neg h1] at hh
    replace h1 := Bool.eq_false_iff.mpr h1
    refine awp_first fun K kk hK => ?_
    simp only [go_sem, h1, of_decide_eq_false h1, h1, of_decide_eq_false h1]
    (repeat refine sd ?_)
    refine hK _ _ fun nx => ?_; clear hK K; try clear kk
    refine awp_ret ?_; refine nmx ?_
    obtain hR := Option.some.inj hh
    subst hR
    exact ret_p2

end Go.Proofs.YtclohbgnaopjfaaGreatDoor
