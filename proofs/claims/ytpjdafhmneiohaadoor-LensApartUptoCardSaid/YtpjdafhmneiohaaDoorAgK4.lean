/- What the functions answer, the program answers (4). -/
import Derived.Test.YtpjdafhmneiohaaDoorAgC
import Derived.Test.YtpjdafhmneiohaaDoorAgF
namespace Go.Proofs.YtpjdafhmneiohaaDoor
set_option linter.unusedSimpArgs false
set_option linter.unusedVariables false
open Go
set_option maxRecDepth 100000

theorem diptychlaw13_light_grp : ∀ kr : Nat, (∀ (l_1 : lens_Lens) (left_2 : Int) (R : Int), diptychlaw13_light_k kr l_1 left_2 = some R → PC Tryd.prog 25 [.agg [.int .u8 l_1.Prim.Op, .str l_1.Prim.Kind, .str l_1.Prim.Name, .str l_1.Prim.New, .list 1 (l_1.Prim.Values.map PV.str), .list 1 (l_1.Prim.To.map PV.str), .bool l_1.Turned, .list 8 (l_1.Kids.map lens_Lens.pv)], .int .i64 left_2] (.int .i64 R)) := by
  intro kr
  induction kr with
  | zero => exact (by intro l_1 left_2 R hh; rw [diptychlaw13_light_k] at hh; cases hh)
  | succ kr ih =>
    have ih_diptychlaw13_light := ih
    clear ih
    intro l_1 left_2 R hh
    rw [diptychlaw13_light_k] at hh
    refine start_diptychlaw13_light rfl ?_
    refine awp_first fun K kk hK => ?_
    simp only [go_sem]
    refine hK _ _ fun nx => ?_; clear hK K; try clear kk
    refine awp_first fun K kk hK => ?_
    simp only [go_sem]
    refine hK _ _ fun nx => ?_; clear hK K; try clear kk
    refine awp_seq ?_
    refine awp_first fun K kk hK => ?_
    simp only [go_sem]
    refine hK _ _ fun nx => ?_; clear hK K; try clear kk
    obtain ⟨e0, f0, hh⟩ := bind_ex hh
    obtain ⟨hlen0, f0⟩ := chk_some f0
    refine awp_fragE (CutTo (fun s => ∃ left_11, left_11 = e0 ∧ ∃ (i_12 : Int) (v_13 : Bool) (nx : Nat) (g2 : Nat), s = ⟨[(1, .int .i64 left_11), (2, .box 2 g2 0), (5, .int .i64 i_12), (26, .bool v_13)], [(2, g2, .var 53 [.int .u8 l_1.Prim.Op, .str l_1.Prim.Kind, .str l_1.Prim.Name, .str l_1.Prim.New, .list 1 (l_1.Prim.Values.map PV.str), .list 1 (l_1.Prim.To.map PV.str), .bool l_1.Turned, .list 8 (l_1.Kids.map lens_Lens.pv)])], nx⟩))
      (fun i s => False)
      (fun s => False) ?_ ?_ ?_ ?_
    · refine awp_block ?_
      refine awp_loopJ fun I hI => ?_
      have key : ∀ (suf pre : List lens_Lens) (i_6 : Int) (left_5 : Int), l_1.Kids = pre ++ suf → i_6 = (pre.length : Int) → diptychlaw13_light_l0 (diptychlaw13_light_k kr) suf i_6 left_5 = some e0 → ∀ (nx : Nat) (g2 : Nat), I ⟨[(1, .int .i64 left_5), (2, .box 2 g2 0), (5, .int .i64 i_6)], [(2, g2, .var 53 [.int .u8 l_1.Prim.Op, .str l_1.Prim.Kind, .str l_1.Prim.Name, .str l_1.Prim.New, .list 1 (l_1.Prim.Values.map PV.str), .list 1 (l_1.Prim.To.map PV.str), .bool l_1.Turned, .list 8 (l_1.Kids.map lens_Lens.pv)])], nx⟩ := by
        intro suf
        induction suf with
        | nil =>
          intro pre i_6 left_5 hsplit hidx hh nx g2
          rw [diptychlaw13_light_l0] at hh
          refine hI _ ?_
          have h9 := walk_nil hsplit hidx
          refine awp_seq ?_
          refine awp_first fun K kk hK => ?_
          simp only [go_sem, h9, of_decide_eq_false h9, h9, of_decide_eq_false h9]
          (repeat refine sd ?_)
          refine hK _ _ fun nx => ?_; clear hK K; try clear kk
          refine awp_false rfl ?_
          refine awp_exit ?_; refine nmx ?_
          refine fragN ?_
          refine cut_id ?_
          refine ⟨_, (Option.some.inj hh), ?_⟩
          first | exact ⟨_, _, _, _, rfl⟩ | (simp only [lens_Prim.pv_eq, lens_Lens.pv_eq, diptychref13_Prim.pv_eq, diptychref13_Lens.pv_eq, pvL, List.map_cons, List.map_nil, List.map_append, rune1]; exact ⟨_, _, _, _, rfl⟩) | (simp only [lens_Prim.pv_eq, lens_Lens.pv_eq, diptychref13_Prim.pv_eq, diptychref13_Lens.pv_eq, pvL, List.map_cons, List.map_nil, List.map_append, rune1, h9]; exact ⟨_, _, _, _, rfl⟩)
        | cons y_9 suf ih =>
          intro pre i_6 left_5 hsplit hidx hh nx g2
          rw [diptychlaw13_light_l0] at hh
          refine hI _ ?_
          obtain ⟨hl0a, hl0b, hl0d, hl0w, h9⟩ := walk_cons (f := lens_Lens.pv) hsplit hidx hlen0
          refine awp_seq ?_
          refine awp_first fun K kk hK => ?_
          simp only [go_sem, h9, of_decide_eq_true h9, h9, of_decide_eq_true h9, hl0a, hl0b, hl0d, hl0w]
          (repeat refine sd ?_)
          refine hK _ _ fun nx => ?_; clear hK K; try clear kk
          by_cases h10 : (decide (left_5 > (0 : Int))) = true
          · rw [if_pos h10] at hh
            refine awp_true (by first | exact congrArg PV.bool h10 | rfl) ?_
            refine awp_skip ?_; refine nmx ?_
            refine awp_seq ?_
            refine awp_block ?_
            obtain ⟨light_10, h11, hh⟩ := bind_ex hh
            refine awp_region fun K kk hK => ?_
            simp only [go_sem, hl0a, hl0b, hl0d, hl0w]
            refine step_call2 (ih_diptychlaw13_light _ _ _ h11) (by (try simp only [go_sem, hl0a, hl0b, hl0d, hl0w]) <;> exact wkl) (by rfl) (by rfl) ?_
            simp only [go_sem, hl0a, hl0b, hl0d, hl0w]
            refine hK _ _ fun nx => ?_; clear hK K; try clear kk
            refine nmx ?_
            refine awp_region fun K kk hK => ?_
            simp only [go_sem, hl0a, hl0b, hl0d, hl0w]
            refine hK _ _ fun nx => ?_; clear hK K; try clear kk
            refine nmx ?_
            have ih' := ih (pre ++ [y_9]) (i_6 + 1) _ (by rw [hsplit]; simp) (by simp [hidx]) hh nx
            refine cut_id ?_
            first | exact ih' _ | (simp only [lens_Prim.pv_eq, lens_Lens.pv_eq, diptychref13_Prim.pv_eq, diptychref13_Lens.pv_eq, pvL, List.map_cons, List.map_nil, List.map_append, rune1] at ih' ⊢; exact ih' _) | (simp only [lens_Prim.pv_eq, lens_Lens.pv_eq, diptychref13_Prim.pv_eq, diptychref13_Lens.pv_eq, pvL, List.map_cons, List.map_nil, List.map_append, rune1, h10, h9] at ih' ⊢; exact ih' _)
          · rw [if_neg h10] at hh
            replace h10 := Bool.eq_false_iff.mpr h10
            refine awp_false (by first | exact congrArg PV.bool h10 | rfl) ?_
            refine awp_exit ?_; refine nmx ?_
            refine fragN ?_
            refine cut_id ?_
            refine ⟨_, (Option.some.inj hh), ?_⟩
            first | exact ⟨_, _, _, _, rfl⟩ | (simp only [lens_Prim.pv_eq, lens_Lens.pv_eq, diptychref13_Prim.pv_eq, diptychref13_Lens.pv_eq, pvL, List.map_cons, List.map_nil, List.map_append, rune1]; exact ⟨_, _, _, _, rfl⟩) | (simp only [lens_Prim.pv_eq, lens_Lens.pv_eq, diptychref13_Prim.pv_eq, diptychref13_Lens.pv_eq, pvL, List.map_cons, List.map_nil, List.map_append, rune1, h10, h9]; exact ⟨_, _, _, _, rfl⟩)
      exact key l_1.Kids [] _ _ rfl rfl f0 _ _
    · rintro s ⟨t, hless, left_11, rfl, i_12, v_13, nx, g2, rfl⟩
      try dsimp only at hh
      refine nmy ?_
      first | (refine cut_less hless ?_; try refine cut_awp ?_) | refine frag_less hless ?_ | refine body_less hless ?_
      refine awp_seq ?_
      refine awp_first fun K kk hK => ?_
      simp only [go_sem]
      refine hK _ _ fun nx => ?_; clear hK K; try clear kk
      by_cases h12 : (decide (left_11 < (1 : Int))) = true
      · rw [if_pos h12] at hh
        refine awp_true (by first | exact congrArg PV.bool h12 | rfl) ?_
        refine awp_first fun K kk hK => ?_
        simp only [go_sem]
        refine hK _ _ fun nx => ?_; clear hK K; try clear kk
        refine awp_ret ?_; refine nmx ?_
        obtain hR := Option.some.inj hh
        subst hR
        exact ret_p2
      · rw [if_neg h12] at hh
        replace h12 := Bool.eq_false_iff.mpr h12
        refine awp_false (by first | exact congrArg PV.bool h12 | rfl) ?_
        refine awp_skip ?_; refine nmx ?_
        refine awp_first fun K kk hK => ?_
        simp only [go_sem]
        refine hK _ _ fun nx => ?_; clear hK K; try clear kk
        refine awp_ret ?_; refine nmx ?_
        obtain hR := Option.some.inj hh
        subst hR
        exact ret_p2
    · intro i s h; exact h.elim
    · intro s h; exact h.elim
theorem diptychlaw13_light_ok (l_1 : lens_Lens) (left_2 : Int) (R : Int) (hh : diptychlaw13_light l_1 left_2 = some R) : PC Tryd.prog 25 [.agg [.int .u8 l_1.Prim.Op, .str l_1.Prim.Kind, .str l_1.Prim.Name, .str l_1.Prim.New, .list 1 (l_1.Prim.Values.map PV.str), .list 1 (l_1.Prim.To.map PV.str), .bool l_1.Turned, .list 8 (l_1.Kids.map lens_Lens.pv)], .int .i64 left_2] (.int .i64 R) := by
  rw [diptychlaw13_light] at hh
  obtain ⟨kr, hh⟩ := lim_some hh
  exact (diptychlaw13_light_grp kr) _ _ _ hh
theorem diptychlaw13_asPrim_ok (p_1 : lens_Prim) (R : diptychref13_Prim) (hh : diptychlaw13_asPrim p_1 = some R) : PC Tryd.prog 40 [.agg [.int .u8 p_1.Op, .str p_1.Kind, .str p_1.Name, .str p_1.New, .list 1 (p_1.Values.map PV.str), .list 1 (p_1.To.map PV.str)]] (.agg [.int .u8 R.Op, .str R.Kind, .str R.Name, .str R.New, .list 1 (R.Values.map PV.str), .list 1 (R.To.map PV.str)]) := by
  rw [diptychlaw13_asPrim] at hh
  refine start_diptychlaw13_asPrim rfl ?_
  refine awp_first fun K kk hK => ?_
  simp only [go_sem]
  refine hK _ _ fun nx => ?_; clear hK K; try clear kk
  refine awp_first fun K kk hK => ?_
  simp only [go_sem]
  refine hK _ _ fun nx => ?_; clear hK K; try clear kk
  refine awp_ret ?_; refine nmx ?_
  obtain hR := Option.some.inj hh
  subst hR
  exact ret_p2
theorem diptychlaw13_asLens_grp : ∀ kr : Nat, (∀ (l_1 : lens_Lens) (R : diptychref13_Lens), diptychlaw13_asLens_k kr l_1 = some R → PC Tryd.prog 26 [.agg [.int .u8 l_1.Prim.Op, .str l_1.Prim.Kind, .str l_1.Prim.Name, .str l_1.Prim.New, .list 1 (l_1.Prim.Values.map PV.str), .list 1 (l_1.Prim.To.map PV.str), .bool l_1.Turned, .list 8 (l_1.Kids.map lens_Lens.pv)]] (.agg [.int .u8 R.Prim.Op, .str R.Prim.Kind, .str R.Prim.Name, .str R.Prim.New, .list 1 (R.Prim.Values.map PV.str), .list 1 (R.Prim.To.map PV.str), .bool R.Turned, .list 8 (R.Kids.map diptychref13_Lens.pv)])) := by
  intro kr
  induction kr with
  | zero => exact (by intro l_1 R hh; rw [diptychlaw13_asLens_k] at hh; cases hh)
  | succ kr ih =>
    have ih_diptychlaw13_asLens := ih
    clear ih
    intro l_1 R hh
    rw [diptychlaw13_asLens_k] at hh
    refine start_diptychlaw13_asLens rfl ?_
    refine awp_first fun K kk hK => ?_
    simp only [go_sem]
    refine hK _ _ fun nx => ?_; clear hK K; try clear kk
    obtain ⟨asprim_2, h1, hh⟩ := bind_ex hh
    refine awp_first fun K kk hK => ?_
    simp only [go_sem]
    refine step_call2 (diptychlaw13_asPrim_ok _ _ h1) (by (try simp only [go_sem]) <;> exact wkl) (by rfl) (by rfl) ?_
    simp only [go_sem]
    refine hK _ _ fun nx => ?_; clear hK K; try clear kk
    refine awp_seq ?_
    refine awp_first fun K kk hK => ?_
    simp only [go_sem]
    refine hK _ _ fun nx => ?_; clear hK K; try clear kk
    obtain ⟨e0, f0, hh⟩ := bind_ex hh
    obtain ⟨hlen0, f0⟩ := chk_some f0
    refine awp_fragE (CutTo (fun s => ∃ v_16, v_16 = e0 ∧ ∃ (i_14 : Int) (v_15 : Bool) (nx : Nat) (g1 : Nat) (g2 : Nat) (g3 : Nat) (g328 : Nat), s = ⟨[(1, .box 1 g1 0), (2, .box 2 g2 0), (3, .box 3 g3 0), (4, .int .i64 i_14), (15, .bool v_15)], [(1, g1, .var 53 [.int .u8 l_1.Prim.Op, .str l_1.Prim.Kind, .str l_1.Prim.Name, .str l_1.Prim.New, .list 1 (l_1.Prim.Values.map PV.str), .list 1 (l_1.Prim.To.map PV.str), .bool l_1.Turned, .list 8 (l_1.Kids.map lens_Lens.pv)]), (2, g2, .var 58 [.int .u8 (0 : Int), .str ([] : Str), .str ([] : Str), .str ([] : Str), .list 1 ([].map PV.str), .list 1 ([].map PV.str), .bool false, .list 8 ([].map diptychref13_Lens.pv)]), (3, g3, .var 58 [.int .u8 asprim_2.Op, .str asprim_2.Kind, .str asprim_2.Name, .str asprim_2.New, .list 1 (asprim_2.Values.map PV.str), .list 1 (asprim_2.To.map PV.str), .bool l_1.Turned, .row 328 g328 v_16.length]), (328, g328, .row false 8 (v_16.map diptychref13_Lens.pv))], nx⟩))
      (fun i s => False)
      (fun s => False) ?_ ?_ ?_ ?_
    · refine awp_block ?_
      refine awp_loopJ fun I hI => ?_
      have key : ∀ (suf pre : List lens_Lens) (i_6 : Int) (v_7 : (List diptychref13_Lens)), l_1.Kids = pre ++ suf → i_6 = (pre.length : Int) → diptychlaw13_asLens_l0 (diptychlaw13_asLens_k kr) suf i_6 v_7 = some e0 → ∀ (nx : Nat) (g1 : Nat) (g2 : Nat) (g3 : Nat) (g328 : Nat), I ⟨[(1, .box 1 g1 0), (2, .box 2 g2 0), (3, .box 3 g3 0), (4, .int .i64 i_6)], [(1, g1, .var 53 [.int .u8 l_1.Prim.Op, .str l_1.Prim.Kind, .str l_1.Prim.Name, .str l_1.Prim.New, .list 1 (l_1.Prim.Values.map PV.str), .list 1 (l_1.Prim.To.map PV.str), .bool l_1.Turned, .list 8 (l_1.Kids.map lens_Lens.pv)]), (2, g2, .var 58 [.int .u8 (0 : Int), .str ([] : Str), .str ([] : Str), .str ([] : Str), .list 1 ([].map PV.str), .list 1 ([].map PV.str), .bool false, .list 8 ([].map diptychref13_Lens.pv)]), (3, g3, .var 58 [.int .u8 asprim_2.Op, .str asprim_2.Kind, .str asprim_2.Name, .str asprim_2.New, .list 1 (asprim_2.Values.map PV.str), .list 1 (asprim_2.To.map PV.str), .bool l_1.Turned, .row 328 g328 v_7.length]), (328, g328, .row false 8 (v_7.map diptychref13_Lens.pv))], nx⟩ := by
        intro suf
        induction suf with
        | nil =>
          intro pre i_6 v_7 hsplit hidx hh nx g1 g2 g3 g328
          rw [diptychlaw13_asLens_l0] at hh
          refine hI _ ?_
          have h10 := walk_nil hsplit hidx
          refine awp_seq ?_
          refine awp_first fun K kk hK => ?_
          simp only [go_sem]
          refine hK _ _ fun nx => ?_; clear hK K; try clear kk
          refine awp_false (by first | exact congrArg PV.bool h10 | rfl) ?_
          refine awp_exit ?_; refine nmx ?_
          refine fragN ?_
          refine cut_id ?_
          refine ⟨_, (Option.some.inj hh), ?_⟩
          first | exact ⟨_, _, _, _, _, _, _, rfl⟩ | (simp only [lens_Prim.pv_eq, lens_Lens.pv_eq, diptychref13_Prim.pv_eq, diptychref13_Lens.pv_eq, pvL, List.map_cons, List.map_nil, List.map_append, rune1]; exact ⟨_, _, _, _, _, _, _, rfl⟩) | (simp only [lens_Prim.pv_eq, lens_Lens.pv_eq, diptychref13_Prim.pv_eq, diptychref13_Lens.pv_eq, pvL, List.map_cons, List.map_nil, List.map_append, rune1, h10]; exact ⟨_, _, _, _, _, _, _, rfl⟩)
        | cons y_11 suf ih =>
          intro pre i_6 v_7 hsplit hidx hh nx g1 g2 g3 g328
          rw [diptychlaw13_asLens_l0] at hh
          refine hI _ ?_
          obtain ⟨hl0a, hl0b, hl0d, hl0w, h10⟩ := walk_cons (f := lens_Lens.pv) hsplit hidx hlen0
          refine awp_seq ?_
          refine awp_first fun K kk hK => ?_
          simp only [go_sem]
          refine hK _ _ fun nx => ?_; clear hK K; try clear kk
          refine awp_true (by first | exact congrArg PV.bool h10 | rfl) ?_
          refine awp_skip ?_; refine nmx ?_
          refine awp_seq ?_
          refine awp_block ?_
          obtain ⟨aslens_12, h11, hh⟩ := bind_ex hh
          obtain ⟨l_13, h12, hh⟩ := bind_ex hh
          obtain ⟨h12a, h12c⟩ := app_some h12
          have h12d := app_map (f := diptychref13_Lens.pv) h12c
          have h12e := app_len h12c
          try simp only [List.length_cons, List.length_nil, Nat.zero_add, Nat.reduceAdd] at h12a h12e
          try simp only [h12e] at h12a
          try simp only [List.map_cons, List.map_nil, List.nil_append, List.append_nil, List.cons_append, List.singleton_append, rune1, lens_Prim.pv_eq, lens_Lens.pv_eq, diptychref13_Prim.pv_eq, diptychref13_Lens.pv_eq, pvL] at h12d
          refine awp_region fun K kk hK => ?_
          simp only [go_sem, h12a, h12d, h12e, hl0a, hl0b, hl0d, hl0w]
          (repeat refine sd ?_)
          refine step_call2 (ih_diptychlaw13_asLens _ _ h11) (by (try simp only [go_sem, h12a, h12d, h12e, hl0a, hl0b, hl0d, hl0w]) <;> exact wkl) (by rfl) (by rfl) ?_
          simp only [go_sem, h12a, h12d, h12e, hl0a, hl0b, hl0d, hl0w]
          (repeat refine sd ?_)
          refine hK _ _ fun nx => ?_; clear hK K; try clear kk
          refine nmx ?_
          refine awp_region fun K kk hK => ?_
          simp only [go_sem, hl0a, hl0b, hl0d, hl0w]
          refine hK _ _ fun nx => ?_; clear hK K; try clear kk
          refine nmx ?_
          have ih' := ih (pre ++ [y_11]) (i_6 + 1) _ (by rw [hsplit]; simp) (by simp [hidx]) hh nx
          refine cut_id ?_
          first | exact ih' _ _ _ _ | (simp only [lens_Prim.pv_eq, lens_Lens.pv_eq, diptychref13_Prim.pv_eq, diptychref13_Lens.pv_eq, pvL, List.map_cons, List.map_nil, List.map_append, rune1, h12e] at ih' ⊢; exact ih' _ _ _ _) | (simp only [lens_Prim.pv_eq, lens_Lens.pv_eq, diptychref13_Prim.pv_eq, diptychref13_Lens.pv_eq, pvL, List.map_cons, List.map_nil, List.map_append, rune1, h12e, h10] at ih' ⊢; exact ih' _ _ _ _)
      exact key l_1.Kids [] _ _ rfl rfl f0 _ _ _ _ _
    · rintro s ⟨t, hless, v_16, rfl, i_14, v_15, nx, g1, g2, g3, g328, rfl⟩
      try dsimp only at hh
      refine nmy ?_
      first | (refine cut_less hless ?_; try refine cut_awp ?_) | refine frag_less hless ?_ | refine body_less hless ?_
      refine awp_first fun K kk hK => ?_
      simp only [go_sem]
      refine hK _ _ fun nx => ?_; clear hK K; try clear kk
      refine awp_ret ?_; refine nmx ?_
      obtain hR := Option.some.inj hh
      subst hR
      exact ret_p2
    · intro i s h; exact h.elim
    · intro s h; exact h.elim
theorem diptychlaw13_asLens_ok (l_1 : lens_Lens) (R : diptychref13_Lens) (hh : diptychlaw13_asLens l_1 = some R) : PC Tryd.prog 26 [.agg [.int .u8 l_1.Prim.Op, .str l_1.Prim.Kind, .str l_1.Prim.Name, .str l_1.Prim.New, .list 1 (l_1.Prim.Values.map PV.str), .list 1 (l_1.Prim.To.map PV.str), .bool l_1.Turned, .list 8 (l_1.Kids.map lens_Lens.pv)]] (.agg [.int .u8 R.Prim.Op, .str R.Prim.Kind, .str R.Prim.Name, .str R.Prim.New, .list 1 (R.Prim.Values.map PV.str), .list 1 (R.Prim.To.map PV.str), .bool R.Turned, .list 8 (R.Kids.map diptychref13_Lens.pv)]) := by
  rw [diptychlaw13_asLens] at hh
  obtain ⟨kr, hh⟩ := lim_some hh
  exact (diptychlaw13_asLens_grp kr) _ _ hh
theorem diptychlaw13_sameNames_ok (a_1 : (List Str)) (b_2 : (List Str)) (R : Bool) (hh : diptychlaw13_sameNames a_1 b_2 = some R) : PC Tryd.prog 76 [.list 1 (a_1.map PV.str), .list 1 (b_2.map PV.str)] (.bool R) := by
  rw [diptychlaw13_sameNames] at hh
  refine start_diptychlaw13_sameNames rfl ?_
  refine awp_first fun K kk hK => ?_
  simp only [go_sem]
  refine hK _ _ fun nx => ?_; clear hK K; try clear kk
  refine awp_seq ?_
  refine awp_first fun K kk hK => ?_
  simp only [go_sem]
  refine hK _ _ fun nx => ?_; clear hK K; try clear kk
  by_cases h1 : ((a_1.length : Int) != (b_2.length : Int)) = true
  · rw [if_pos h1] at hh
    refine awp_true (by first | exact congrArg PV.bool h1 | rfl) ?_
    refine awp_first fun K kk hK => ?_
    simp only [go_sem]
    refine hK _ _ fun nx => ?_; clear hK K; try clear kk
    refine awp_ret ?_; refine nmx ?_
    obtain hR := Option.some.inj hh
    subst hR
    exact ret_p2
  · rw [if_neg h1] at hh
    replace h1 := Bool.eq_false_iff.mpr h1
    refine awp_false (by first | exact congrArg PV.bool h1 | rfl) ?_
    refine awp_skip ?_; refine nmx ?_
    refine awp_seq ?_
    refine awp_first fun K kk hK => ?_
    simp only [go_sem]
    refine hK _ _ fun nx => ?_; clear hK K; try clear kk
    obtain ⟨e0, f0, hh⟩ := bind_ex hh
    obtain ⟨hlen0, f0⟩ := chk_some f0
    refine awp_fragE (CutTo (fun s => .inr () = e0 ∧ ∃ (i_11 : Int) (v_12 : Bool) (nx : Nat), s = ⟨[(0, .list 1 (a_1.map PV.str)), (1, .list 1 (b_2.map PV.str)), (5, .int .i64 i_11), (14, .bool v_12)], [], nx⟩))
      (fun i s => False)
      (fun s => ∃ res_10, .inl res_10 = e0 ∧ bodyR Tryd.prog [.tmp 4] (.bool res_10) [] .ret s) ?_ ?_ ?_ ?_
    · refine awp_block ?_
      refine awp_loopJ fun I hI => ?_
      have key : ∀ (suf pre : List Str) (i_5 : Int), a_1 = pre ++ suf → i_5 = (pre.length : Int) → diptychlaw13_sameNames_l0 b_2 suf i_5 = some e0 → ∀ (nx : Nat), I ⟨[(0, .list 1 (a_1.map PV.str)), (1, .list 1 (b_2.map PV.str)), (5, .int .i64 i_5)], [], nx⟩ := by
        intro suf
        induction suf with
        | nil =>
          intro pre i_5 hsplit hidx hh nx
          rw [diptychlaw13_sameNames_l0] at hh
          refine hI _ ?_
          have h10 := walk_nil hsplit hidx
          refine awp_seq ?_
          refine awp_first fun K kk hK => ?_
          simp only [go_sem]
          refine hK _ _ fun nx => ?_; clear hK K; try clear kk
          refine awp_false (by first | exact congrArg PV.bool h10 | rfl) ?_
          refine awp_exit ?_; refine nmx ?_
          refine fragN ?_
          refine cut_id ?_
          refine ⟨(Option.some.inj hh), ?_⟩
          first | exact ⟨_, _, _, rfl⟩ | (simp only [lens_Prim.pv_eq, lens_Lens.pv_eq, diptychref13_Prim.pv_eq, diptychref13_Lens.pv_eq, pvL, List.map_cons, List.map_nil, List.map_append, rune1]; exact ⟨_, _, _, rfl⟩) | (simp only [lens_Prim.pv_eq, lens_Lens.pv_eq, diptychref13_Prim.pv_eq, diptychref13_Lens.pv_eq, pvL, List.map_cons, List.map_nil, List.map_append, rune1, h1, h10]; exact ⟨_, _, _, rfl⟩)
        | cons y_8 suf ih =>
          intro pre i_5 hsplit hidx hh nx
          rw [diptychlaw13_sameNames_l0] at hh
          refine hI _ ?_
          obtain ⟨hl0a, hl0b, hl0d, hl0w, h10⟩ := walk_cons (f := PV.str) hsplit hidx hlen0
          refine awp_seq ?_
          refine awp_first fun K kk hK => ?_
          simp only [go_sem]
          refine hK _ _ fun nx => ?_; clear hK K; try clear kk
          refine awp_true (by first | exact congrArg PV.bool h10 | rfl) ?_
          refine awp_skip ?_; refine nmx ?_
          refine awp_seq ?_
          refine awp_block ?_
          obtain ⟨x_9, h11, hh⟩ := bind_ex hh
          obtain ⟨h11a, h11b, h11c⟩ := rd_some h11
          have h11d := rd_get (f := PV.str) h11c
          have h11f := rd_more (f := PV.str) h11c
          try simp only [Int.toNat_natCast, Int.reduceToNat] at h11d h11f
          refine awp_first fun K kk hK => ?_
          simp only [go_sem, h11a, h11b, h11d, h11f.1, h11f.2, hl0a, hl0b, hl0d, hl0w]
          (repeat refine sd ?_)
          refine hK _ _ fun nx => ?_; clear hK K; try clear kk
          by_cases h12 : (!(y_8 == x_9)) = true
          · rw [if_pos h12] at hh
            refine awp_true (by first | exact congrArg PV.bool h12 | rfl) ?_
            refine awp_first fun K kk hK => ?_
            simp only [go_sem, hl0a, hl0b, hl0d, hl0w]
            refine hK _ _ fun nx => ?_; clear hK K; try clear kk
            refine awp_ret ?_; refine nmx ?_
            refine fragR ⟨_, (Option.some.inj hh), ?_⟩
            exact ret_p2
          · rw [if_neg h12] at hh
            replace h12 := Bool.eq_false_iff.mpr h12
            refine awp_false (by first | exact congrArg PV.bool h12 | rfl) ?_
            refine awp_skip ?_; refine nmx ?_
            refine awp_region fun K kk hK => ?_
            simp only [go_sem, hl0a, hl0b, hl0d, hl0w]
            refine hK _ _ fun nx => ?_; clear hK K; try clear kk
            refine nmx ?_
            have ih' := ih (pre ++ [y_8]) (i_5 + 1) (by rw [hsplit]; simp) (by simp [hidx]) hh nx
            refine cut_id ?_
            first | exact ih' | (simp only [lens_Prim.pv_eq, lens_Lens.pv_eq, diptychref13_Prim.pv_eq, diptychref13_Lens.pv_eq, pvL, List.map_cons, List.map_nil, List.map_append, rune1] at ih' ⊢; exact ih') | (simp only [lens_Prim.pv_eq, lens_Lens.pv_eq, diptychref13_Prim.pv_eq, diptychref13_Lens.pv_eq, pvL, List.map_cons, List.map_nil, List.map_append, rune1, h1, h10, h12] at ih' ⊢; exact ih')
      exact key a_1 [] _ rfl rfl f0 _
    · rintro s ⟨t, hless, rfl, i_11, v_12, nx, rfl⟩
      try dsimp only at hh
      refine nmy ?_
      first | (refine cut_less hless ?_; try refine cut_awp ?_) | refine frag_less hless ?_ | refine body_less hless ?_
      refine awp_first fun K kk hK => ?_
      simp only [go_sem]
      refine hK _ _ fun nx => ?_; clear hK K; try clear kk
      refine awp_ret ?_; refine nmx ?_
      obtain hR := Option.some.inj hh
      subst hR
      exact ret_p2
    · intro i s h; exact h.elim
    · rintro s ⟨res_10, rfl, hb⟩
      try dsimp only at hh
      obtain hR := Option.some.inj hh
      subst hR
      refine nmx ?_
      exact hb
theorem diptychlaw13_samePrim_ok (a_1 : lens_Prim) (b_2 : diptychref13_Prim) (R : Bool) (hh : diptychlaw13_samePrim a_1 b_2 = some R) : PC Tryd.prog 31 [.agg [.int .u8 a_1.Op, .str a_1.Kind, .str a_1.Name, .str a_1.New, .list 1 (a_1.Values.map PV.str), .list 1 (a_1.To.map PV.str)], .agg [.int .u8 b_2.Op, .str b_2.Kind, .str b_2.Name, .str b_2.New, .list 1 (b_2.Values.map PV.str), .list 1 (b_2.To.map PV.str)]] (.bool R) := by
  rw [diptychlaw13_samePrim] at hh
  refine start_diptychlaw13_samePrim rfl ?_
  refine awp_first fun K kk hK => ?_
  simp only [go_sem]
  refine hK _ _ fun nx => ?_; clear hK K; try clear kk
  by_cases h1 : (a_1.Op == b_2.Op) = true
  · rw [if_pos h1] at hh
    by_cases h2 : (a_1.Kind == b_2.Kind) = true
    · rw [if_pos h2] at hh
      by_cases h3 : (a_1.Name == b_2.Name) = true
      · rw [if_pos h3] at hh
        by_cases h4 : (a_1.New == b_2.New) = true
        · rw [if_pos h4] at hh
          obtain ⟨samena_3, h5, hh⟩ := bind_ex hh
          by_cases h6 : (samena_3) = true
          · rw [if_pos h6] at hh
            obtain ⟨samena_4, h7, hh⟩ := bind_ex hh
            refine awp_first fun K kk hK => ?_
            simp only [go_sem, h1, h1, h2, h2, h3, h3, h4, h4, h6, h6]
            (repeat refine sd ?_)
            refine step_call2 (diptychlaw13_sameNames_ok _ _ _ h5) (by (try simp only [go_sem, h1, h1, h2, h2, h3, h3, h4, h4, h6, h6]) <;> exact wkl) (by rfl) (by rfl) ?_
            simp only [go_sem, h1, h1, h2, h2, h3, h3, h4, h4, h6, h6]
            (repeat refine sd ?_)
            refine step_call2 (diptychlaw13_sameNames_ok _ _ _ h7) (by (try simp only [go_sem, h1, h1, h2, h2, h3, h3, h4, h4, h6, h6]) <;> exact wkl) (by rfl) (by rfl) ?_
            simp only [go_sem, h1, h1, h2, h2, h3, h3, h4, h4, h6, h6]
            (repeat refine sd ?_)
            refine hK _ _ fun nx => ?_; clear hK K; try clear kk
            refine awp_ret ?_; refine nmx ?_
            obtain hR := Option.some.inj hh
            subst hR
            exact ret_p2
          · rw [if_neg h6] at hh
            replace h6 := Bool.eq_false_iff.mpr h6
            refine awp_first fun K kk hK => ?_
            simp only [go_sem, h1, h1, h2, h2, h3, h3, h4, h4, h6, h6]
            (repeat refine sd ?_)
            refine step_call2 (diptychlaw13_sameNames_ok _ _ _ h5) (by (try simp only [go_sem, h1, h1, h2, h2, h3, h3, h4, h4, h6, h6]) <;> exact wkl) (by rfl) (by rfl) ?_
            simp only [go_sem, h1, h1, h2, h2, h3, h3, h4, h4, h6, h6]
            (repeat refine sd ?_)
            refine hK _ _ fun nx => ?_; clear hK K; try clear kk
            refine awp_ret ?_; refine nmx ?_
            obtain hR := Option.some.inj hh
            subst hR
            exact ret_p2
        · rw [if_neg h4] at hh
          replace h4 := Bool.eq_false_iff.mpr h4
          refine awp_first fun K kk hK => ?_
          simp only [go_sem, h1, h1, h2, h2, h3, h3, h4, h4]
          (repeat refine sd ?_)
          refine hK _ _ fun nx => ?_; clear hK K; try clear kk
          refine awp_ret ?_; refine nmx ?_
          obtain hR := Option.some.inj hh
          subst hR
          exact ret_p2
      · rw [if_neg h3] at hh
        replace h3 := Bool.eq_false_iff.mpr h3
        refine awp_first fun K kk hK => ?_
        simp only [go_sem, h1, h1, h2, h2, h3, h3]
        (repeat refine sd ?_)
        refine hK _ _ fun nx => ?_; clear hK K; try clear kk
        refine awp_ret ?_; refine nmx ?_
        obtain hR := Option.some.inj hh
        subst hR
        exact ret_p2
    · rw [if_neg h2] at hh
      replace h2 := Bool.eq_false_iff.mpr h2
      refine awp_first fun K kk hK => ?_
      simp only [go_sem, h1, h1, h2, h2]
      (repeat refine sd ?_)
      refine hK _ _ fun nx => ?_; clear hK K; try clear kk
      refine awp_ret ?_; refine nmx ?_
      obtain hR := Option.some.inj hh
      subst hR
      exact ret_p2
  · rw [if_neg h1] at hh
    replace h1 := Bool.eq_false_iff.mpr h1
    refine awp_first fun K kk hK => ?_
    simp only [go_sem, h1, h1]
    (repeat refine sd ?_)
    refine hK _ _ fun nx => ?_; clear hK K; try clear kk
    refine awp_ret ?_; refine nmx ?_
    obtain hR := Option.some.inj hh
    subst hR
    exact ret_p2
theorem diptychlaw13_sameLens_grp : ∀ kr : Nat, (∀ (a_1 : lens_Lens) (b_2 : diptychref13_Lens) (R : Bool), diptychlaw13_sameLens_k kr a_1 b_2 = some R → PC Tryd.prog 39 [.agg [.int .u8 a_1.Prim.Op, .str a_1.Prim.Kind, .str a_1.Prim.Name, .str a_1.Prim.New, .list 1 (a_1.Prim.Values.map PV.str), .list 1 (a_1.Prim.To.map PV.str), .bool a_1.Turned, .list 8 (a_1.Kids.map lens_Lens.pv)], .agg [.int .u8 b_2.Prim.Op, .str b_2.Prim.Kind, .str b_2.Prim.Name, .str b_2.Prim.New, .list 1 (b_2.Prim.Values.map PV.str), .list 1 (b_2.Prim.To.map PV.str), .bool b_2.Turned, .list 8 (b_2.Kids.map diptychref13_Lens.pv)]] (.bool R)) := by
  intro kr
  induction kr with
  | zero => exact (by intro a_1 b_2 R hh; rw [diptychlaw13_sameLens_k] at hh; cases hh)
  | succ kr ih =>
    have ih_diptychlaw13_sameLens := ih
    clear ih
    intro a_1 b_2 R hh
    rw [diptychlaw13_sameLens_k] at hh
    refine start_diptychlaw13_sameLens rfl ?_
    refine awp_first fun K kk hK => ?_
    simp only [go_sem]
    refine hK _ _ fun nx => ?_; clear hK K; try clear kk
    refine awp_seq ?_
    obtain ⟨samepr_3, h1, hh⟩ := bind_ex hh
    by_cases h2 : (!samepr_3) = true
    · rw [if_pos h2] at hh
      refine awp_first fun K kk hK => ?_
      simp only [go_sem, h2, h2]
      (repeat refine sd ?_)
      refine step_call2 (diptychlaw13_samePrim_ok _ _ _ h1) (by (try simp only [go_sem, h2, h2]) <;> exact wkl) (by rfl) (by rfl) ?_
      simp only [go_sem, h2, h2]
      (repeat refine sd ?_)
      refine hK _ _ fun nx => ?_; clear hK K; try clear kk
      refine awp_true rfl ?_
      refine awp_first fun K kk hK => ?_
      simp only [go_sem]
      refine hK _ _ fun nx => ?_; clear hK K; try clear kk
      refine awp_ret ?_; refine nmx ?_
      obtain hR := Option.some.inj hh
      subst hR
      exact ret_p2
    · rw [if_neg h2] at hh
      replace h2 := Bool.eq_false_iff.mpr h2
      by_cases h3 : (((a_1.Turned == b_2.Turned) != true)) = true
      · rw [if_pos h3] at hh
        refine awp_first fun K kk hK => ?_
        simp only [go_sem, h2, h2, h3, h3]
        (repeat refine sd ?_)
        refine step_call2 (diptychlaw13_samePrim_ok _ _ _ h1) (by (try simp only [go_sem, h2, h2, h3, h3]) <;> exact wkl) (by rfl) (by rfl) ?_
        simp only [go_sem, h2, h2, h3, h3]
        (repeat refine sd ?_)
        refine hK _ _ fun nx => ?_; clear hK K; try clear kk
        refine awp_true rfl ?_
        refine awp_first fun K kk hK => ?_
        simp only [go_sem]
        refine hK _ _ fun nx => ?_; clear hK K; try clear kk
        refine awp_ret ?_; refine nmx ?_
        obtain hR := Option.some.inj hh
        subst hR
        exact ret_p2
      · rw [if_neg h3] at hh
        replace h3 := Bool.eq_false_iff.mpr h3
        refine awp_first fun K kk hK => ?_
        simp only [go_sem, h2, h2, h3, h3]
        (repeat refine sd ?_)
        refine step_call2 (diptychlaw13_samePrim_ok _ _ _ h1) (by (try simp only [go_sem, h2, h2, h3, h3]) <;> exact wkl) (by rfl) (by rfl) ?_
        simp only [go_sem, h2, h2, h3, h3]
        (repeat refine sd ?_)
        refine hK _ _ fun nx => ?_; clear hK K; try clear kk
        by_cases h4 : ((a_1.Kids.length : Int) != (b_2.Kids.length : Int)) = true
        · rw [if_pos h4] at hh
          refine awp_true (by first | exact congrArg PV.bool h4 | rfl) ?_
          refine awp_first fun K kk hK => ?_
          simp only [go_sem]
          refine hK _ _ fun nx => ?_; clear hK K; try clear kk
          refine awp_ret ?_; refine nmx ?_
          obtain hR := Option.some.inj hh
          subst hR
          exact ret_p2
        · rw [if_neg h4] at hh
          replace h4 := Bool.eq_false_iff.mpr h4
          refine awp_false (by first | exact congrArg PV.bool h4 | rfl) ?_
          refine awp_skip ?_; refine nmx ?_
          refine awp_seq ?_
          refine awp_first fun K kk hK => ?_
          simp only [go_sem]
          refine hK _ _ fun nx => ?_; clear hK K; try clear kk
          obtain ⟨e0, f0, hh⟩ := bind_ex hh
          obtain ⟨hlen0, f0⟩ := chk_some f0
          refine awp_fragE (CutTo (fun s => .inr () = e0 ∧ ∃ (i_15 : Int) (v_16 : Bool) (nx : Nat) (g2 : Nat) (g3 : Nat), s = ⟨[(2, .box 2 g2 0), (3, .box 3 g3 0), (5, .int .i64 i_15), (32, .bool v_16)], [(2, g2, .var 53 [.int .u8 a_1.Prim.Op, .str a_1.Prim.Kind, .str a_1.Prim.Name, .str a_1.Prim.New, .list 1 (a_1.Prim.Values.map PV.str), .list 1 (a_1.Prim.To.map PV.str), .bool a_1.Turned, .list 8 (a_1.Kids.map lens_Lens.pv)]), (3, g3, .var 58 [.int .u8 b_2.Prim.Op, .str b_2.Prim.Kind, .str b_2.Prim.Name, .str b_2.Prim.New, .list 1 (b_2.Prim.Values.map PV.str), .list 1 (b_2.Prim.To.map PV.str), .bool b_2.Turned, .list 8 (b_2.Kids.map diptychref13_Lens.pv)])], nx⟩))
            (fun i s => False)
            (fun s => ∃ res_14, .inl res_14 = e0 ∧ bodyR Tryd.prog [.tmp 4] (.bool res_14) [] .ret s) ?_ ?_ ?_ ?_
          · refine awp_block ?_
            refine awp_loopJ fun I hI => ?_
            have key : ∀ (suf pre : List lens_Lens) (i_7 : Int), a_1.Kids = pre ++ suf → i_7 = (pre.length : Int) → diptychlaw13_sameLens_l0 b_2 (diptychlaw13_sameLens_k kr) suf i_7 = some e0 → ∀ (nx : Nat) (g2 : Nat) (g3 : Nat), I ⟨[(2, .box 2 g2 0), (3, .box 3 g3 0), (5, .int .i64 i_7)], [(2, g2, .var 53 [.int .u8 a_1.Prim.Op, .str a_1.Prim.Kind, .str a_1.Prim.Name, .str a_1.Prim.New, .list 1 (a_1.Prim.Values.map PV.str), .list 1 (a_1.Prim.To.map PV.str), .bool a_1.Turned, .list 8 (a_1.Kids.map lens_Lens.pv)]), (3, g3, .var 58 [.int .u8 b_2.Prim.Op, .str b_2.Prim.Kind, .str b_2.Prim.Name, .str b_2.Prim.New, .list 1 (b_2.Prim.Values.map PV.str), .list 1 (b_2.Prim.To.map PV.str), .bool b_2.Turned, .list 8 (b_2.Kids.map diptychref13_Lens.pv)])], nx⟩ := by
              intro suf
              induction suf with
              | nil =>
                intro pre i_7 hsplit hidx hh nx g2 g3
                rw [diptychlaw13_sameLens_l0] at hh
                refine hI _ ?_
                have h15 := walk_nil hsplit hidx
                refine awp_seq ?_
                refine awp_first fun K kk hK => ?_
                simp only [go_sem]
                refine hK _ _ fun nx => ?_; clear hK K; try clear kk
                refine awp_false (by first | exact congrArg PV.bool h15 | rfl) ?_
                refine awp_exit ?_; refine nmx ?_
                refine fragN ?_
                refine cut_id ?_
                refine ⟨(Option.some.inj hh), ?_⟩
                first | exact ⟨_, _, _, _, _, rfl⟩ | (simp only [lens_Prim.pv_eq, lens_Lens.pv_eq, diptychref13_Prim.pv_eq, diptychref13_Lens.pv_eq, pvL, List.map_cons, List.map_nil, List.map_append, rune1]; exact ⟨_, _, _, _, _, rfl⟩) | (simp only [lens_Prim.pv_eq, lens_Lens.pv_eq, diptychref13_Prim.pv_eq, diptychref13_Lens.pv_eq, pvL, List.map_cons, List.map_nil, List.map_append, rune1, h15, h2, h3, h4]; exact ⟨_, _, _, _, _, rfl⟩)
              | cons y_11 suf ih =>
                intro pre i_7 hsplit hidx hh nx g2 g3
                rw [diptychlaw13_sameLens_l0] at hh
                refine hI _ ?_
                obtain ⟨hl0a, hl0b, hl0d, hl0w, h15⟩ := walk_cons (f := lens_Lens.pv) hsplit hidx hlen0
                refine awp_seq ?_
                refine awp_first fun K kk hK => ?_
                simp only [go_sem]
                refine hK _ _ fun nx => ?_; clear hK K; try clear kk
                refine awp_true (by first | exact congrArg PV.bool h15 | rfl) ?_
                refine awp_skip ?_; refine nmx ?_
                refine awp_seq ?_
                refine awp_block ?_
                obtain ⟨x_12, h16, hh⟩ := bind_ex hh
                obtain ⟨h16a, h16b, h16c⟩ := rd_some h16
                have h16d := rd_get (f := diptychref13_Lens.pv) h16c
                have h16f := rd_more (f := diptychref13_Lens.pv) h16c
                try simp only [Int.toNat_natCast, Int.reduceToNat] at h16d h16f
                obtain ⟨samele_13, h17, hh⟩ := bind_ex hh
                refine awp_first fun K kk hK => ?_
                simp only [go_sem, h16a, h16b, h16d, h16f.1, h16f.2, hl0a, hl0b, hl0d, hl0w]
                (repeat refine sd ?_)
                refine step_call2 (ih_diptychlaw13_sameLens _ _ _ h17) (by (try simp only [go_sem, h16a, h16b, h16d, h16f.1, h16f.2, hl0a, hl0b, hl0d, hl0w]) <;> exact wkl) (by rfl) (by rfl) ?_
                simp only [go_sem, h16a, h16b, h16d, h16f.1, h16f.2, hl0a, hl0b, hl0d, hl0w]
                (repeat refine sd ?_)
                refine hK _ _ fun nx => ?_; clear hK K; try clear kk
                by_cases h18 : (!samele_13) = true
                · rw [if_pos h18] at hh
                  refine awp_true (by first | exact congrArg PV.bool h18 | rfl) ?_
                  refine awp_first fun K kk hK => ?_
                  simp only [go_sem, hl0a, hl0b, hl0d, hl0w]
                  refine hK _ _ fun nx => ?_; clear hK K; try clear kk
                  refine awp_ret ?_; refine nmx ?_
                  refine fragR ⟨_, (Option.some.inj hh), ?_⟩
                  exact ret_p2
                · rw [if_neg h18] at hh
                  replace h18 := Bool.eq_false_iff.mpr h18
                  refine awp_false (by first | exact congrArg PV.bool h18 | rfl) ?_
                  refine awp_skip ?_; refine nmx ?_
                  refine awp_region fun K kk hK => ?_
                  simp only [go_sem, hl0a, hl0b, hl0d, hl0w]
                  refine hK _ _ fun nx => ?_; clear hK K; try clear kk
                  refine nmx ?_
                  have ih' := ih (pre ++ [y_11]) (i_7 + 1) (by rw [hsplit]; simp) (by simp [hidx]) hh nx
                  refine cut_id ?_
                  first | exact ih' _ _ | (simp only [lens_Prim.pv_eq, lens_Lens.pv_eq, diptychref13_Prim.pv_eq, diptychref13_Lens.pv_eq, pvL, List.map_cons, List.map_nil, List.map_append, rune1] at ih' ⊢; exact ih' _ _) | (simp only [lens_Prim.pv_eq, lens_Lens.pv_eq, diptychref13_Prim.pv_eq, diptychref13_Lens.pv_eq, pvL, List.map_cons, List.map_nil, List.map_append, rune1, h15, h18, h2, h3, h4] at ih' ⊢; exact ih' _ _)
            exact key a_1.Kids [] _ rfl rfl f0 _ _ _
          · rintro s ⟨t, hless, rfl, i_15, v_16, nx, g2, g3, rfl⟩
            try dsimp only at hh
            refine nmy ?_
            first | (refine cut_less hless ?_; try refine cut_awp ?_) | refine frag_less hless ?_ | refine body_less hless ?_
            refine awp_first fun K kk hK => ?_
            simp only [go_sem]
            refine hK _ _ fun nx => ?_; clear hK K; try clear kk
            refine awp_ret ?_; refine nmx ?_
            obtain hR := Option.some.inj hh
            subst hR
            exact ret_p2
          · intro i s h; exact h.elim
          · rintro s ⟨res_14, rfl, hb⟩
            try dsimp only at hh
            obtain hR := Option.some.inj hh
            subst hR
            refine nmx ?_
            exact hb
theorem diptychlaw13_sameLens_ok (a_1 : lens_Lens) (b_2 : diptychref13_Lens) (R : Bool) (hh : diptychlaw13_sameLens a_1 b_2 = some R) : PC Tryd.prog 39 [.agg [.int .u8 a_1.Prim.Op, .str a_1.Prim.Kind, .str a_1.Prim.Name, .str a_1.Prim.New, .list 1 (a_1.Prim.Values.map PV.str), .list 1 (a_1.Prim.To.map PV.str), .bool a_1.Turned, .list 8 (a_1.Kids.map lens_Lens.pv)], .agg [.int .u8 b_2.Prim.Op, .str b_2.Prim.Kind, .str b_2.Prim.Name, .str b_2.Prim.New, .list 1 (b_2.Prim.Values.map PV.str), .list 1 (b_2.Prim.To.map PV.str), .bool b_2.Turned, .list 8 (b_2.Kids.map diptychref13_Lens.pv)]] (.bool R) := by
  rw [diptychlaw13_sameLens] at hh
  obtain ⟨kr, hh⟩ := lim_some hh
  exact (diptychlaw13_sameLens_grp kr) _ _ _ hh
theorem slices_Clone_lens_Lens_ok (l : (List lens_Lens)) (R : (List lens_Lens)) (hh : slices_Clone_lens_Lens l = some R) : PC Tryd.prog 80 [.list 8 (l.map lens_Lens.pv)] (.own 8 (R.map lens_Lens.pv)) := by
  rw [slices_Clone_lens_Lens] at hh
  obtain ⟨ha, hb⟩ := app_some hh
  rw [List.nil_append] at hb
  subst hb
  try simp only [List.length_nil, Nat.zero_add] at ha
  refine start_slices_Clone_lens_Lens rfl ?_
  refine awp_first fun K kk hK => ?_
  simp only [go_sem]
  refine hK _ _ fun nx => ?_; clear hK K; try clear kk
  refine awp_first fun K kk hK => ?_
  simp only [go_sem]
  refine ⟨fun hnil => hK _ _ fun nx => ?_, hK _ _ fun nx => ?_⟩ <;> (clear hK K; try clear kk)
  · have hl : l = [] := by simpa using hnil
    subst hl
    first | refine awp_true rfl ?_ | (refine awp_seq ?_; refine awp_true rfl ?_)
    refine awp_first fun K kk hK => ?_
    simp only [go_sem]
    refine hK _ _ fun nx => ?_; clear hK K; try clear kk
    refine awp_ret ?_; refine nmx ?_
    exact ret_own_nil rfl
  · first | refine awp_false rfl ?_ | (refine awp_seq ?_; refine awp_false rfl ?_)
    refine awp_skip ?_; refine nmx ?_
    refine awp_first fun K kk hK => ?_
    simp only [go_sem, ha]
    refine hK _ _ fun nx => ?_; clear hK K; try clear kk
    refine awp_ret ?_; refine nmx ?_
    exact ret_own (by rfl) (by rfl) (by rfl) (by simp) (by rfl)
theorem lens_Invert_ok (l_1 : lens_Lens) (R : lens_Lens) (hh : lens_Invert l_1 = some R) : PC Tryd.prog 41 [.agg [.int .u8 l_1.Prim.Op, .str l_1.Prim.Kind, .str l_1.Prim.Name, .str l_1.Prim.New, .list 1 (l_1.Prim.Values.map PV.str), .list 1 (l_1.Prim.To.map PV.str), .bool l_1.Turned, .list 8 (l_1.Kids.map lens_Lens.pv)]] (.agg [.int .u8 R.Prim.Op, .str R.Prim.Kind, .str R.Prim.Name, .str R.Prim.New, .list 1 (R.Prim.Values.map PV.str), .list 1 (R.Prim.To.map PV.str), .bool R.Turned, .list 8 (R.Kids.map lens_Lens.pv)]) := by
  rw [lens_Invert] at hh
  refine start_lens_Invert rfl ?_
  refine awp_first fun K kk hK => ?_
  simp only [go_sem]
  refine hK _ _ fun nx => ?_; clear hK K; try clear kk
  refine awp_seq ?_
  refine awp_block ?_
  refine awp_first fun K kk hK => ?_
  simp only [go_sem]
  refine hK _ _ fun nx => ?_; clear hK K; try clear kk
  by_cases h1 : (l_1.Prim.Op != (0 : Int)) = true
  · rw [if_pos h1] at hh
    refine awp_true (by first | exact congrArg PV.bool h1 | rfl) ?_
    refine awp_first fun K kk hK => ?_
    simp only [go_sem]
    refine hK _ _ fun nx => ?_; clear hK K; try clear kk
    refine awp_ret ?_; refine nmx ?_
    obtain hR := Option.some.inj hh
    subst hR
    exact ret_p2
  · rw [if_neg h1] at hh
    replace h1 := Bool.eq_false_iff.mpr h1
    refine awp_false (by first | exact congrArg PV.bool h1 | rfl) ?_
    by_cases h2 : (l_1.Turned) = true
    · rw [if_pos h2] at hh
      refine awp_first fun K kk hK => ?_
      simp only [go_sem, h2, h2]
      (repeat refine sd ?_)
      refine hK _ _ fun nx => ?_; clear hK K; try clear kk
      by_cases h3 : ((l_1.Kids.length : Int) == (1 : Int)) = true
      · rw [if_pos h3] at hh
        refine awp_true (by first | exact congrArg PV.bool h3 | rfl) ?_
        obtain ⟨x_2, h4, hh⟩ := bind_ex hh
        obtain ⟨h4a, h4b, h4c⟩ := rd_some h4
        have h4d := rd_get (f := lens_Lens.pv) h4c
        have h4f := rd_more (f := lens_Lens.pv) h4c
        try simp only [Int.toNat_natCast, Int.reduceToNat] at h4d h4f
        refine awp_first fun K kk hK => ?_
        simp only [go_sem, h4a, h4b, h4d, h4f.1, h4f.2]
        (repeat refine sd ?_)
        refine hK _ _ fun nx => ?_; clear hK K; try clear kk
        refine awp_ret ?_; refine nmx ?_
        obtain hR := Option.some.inj hh
        subst hR
        exact ret_p2
      · rw [if_neg h3] at hh
        replace h3 := Bool.eq_false_iff.mpr h3
        refine awp_false (by first | exact congrArg PV.bool h3 | rfl) ?_
        refine awp_skip ?_; refine nmx ?_
        obtain ⟨lens_3, h5, hh⟩ := bind_ex hh
        refine awp_first fun K kk hK => ?_
        simp only [go_sem]
        refine step_call2 (slices_Clone_lens_Lens_ok _ _ h5).list (by (try simp only [go_sem]) <;> exact wkl) (by rfl) (by rfl) ?_
        simp only [go_sem]
        refine hK _ _ fun nx => ?_; clear hK K; try clear kk
        refine awp_ret ?_; refine nmx ?_
        obtain hR := Option.some.inj hh
        subst hR
        exact ret_p2
    · rw [if_neg h2] at hh
      replace h2 := Bool.eq_false_iff.mpr h2
      refine awp_first fun K kk hK => ?_
      simp only [go_sem, h2, h2]
      (repeat refine sd ?_)
      refine hK _ _ fun nx => ?_; clear hK K; try clear kk
      refine awp_false rfl ?_
      refine awp_skip ?_; refine nmx ?_
      obtain ⟨lens_4, h6, hh⟩ := bind_ex hh
      refine awp_first fun K kk hK => ?_
      simp only [go_sem]
      refine step_call2 (slices_Clone_lens_Lens_ok _ _ h6).list (by (try simp only [go_sem]) <;> exact wkl) (by rfl) (by rfl) ?_
      simp only [go_sem]
      refine hK _ _ fun nx => ?_; clear hK K; try clear kk
      refine awp_ret ?_; refine nmx ?_
      obtain hR := Option.some.inj hh
      subst hR
      exact ret_p2

end Go.Proofs.YtpjdafhmneiohaaDoor
