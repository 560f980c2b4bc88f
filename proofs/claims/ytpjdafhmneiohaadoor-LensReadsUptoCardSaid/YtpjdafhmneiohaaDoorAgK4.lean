/- What the functions answer, the program answers (4). -/
import Derived.Test.YtpjdafhmneiohaaDoorAgC
import Derived.Test.YtpjdafhmneiohaaDoorAgF
namespace Go.Proofs.YtpjdafhmneiohaaDoor
set_option linter.unusedSimpArgs false
set_option linter.unusedVariables false
open Go
set_option maxRecDepth 100000

theorem diptychlaw13_light_grp : ∀ kr : Nat, (∀ (l_1 : lens_Lens) (left_2 : Int) (R : Int), diptychlaw13_light_k kr l_1 left_2 = some R → PC Tryd.prog 25 [.agg [.int .u8 l_1.Prim.Op, .str l_1.Prim.Kind, .str l_1.Prim.Name, .str l_1.Prim.New, .list 1 (l_1.Prim.Values.map PV.str), .list 1 (l_1.Prim.To.map PV.str), .bool l_1.Turned, .list 8 (l_1.Kids.map lens_Lens.pv)], .int .i64 left_2] (.int .i64 R)) := by
  intro kr
  induction kr with
  | zero => exact (by intro l_1 left_2 R hh; rw [diptychlaw13_light_k] at hh; cases hh)
  | succ kr ih =>
    have ih_diptychlaw13_light := ih
    clear ih
    intro l_1 left_2 R hh
    rw [diptychlaw13_light_k] at hh
    refine start_diptychlaw13_light rfl ?_
    refine awp_first fun K kk hK => ?_
    simp only [go_sem]
    refine hK _ _ fun nx => ?_; clear hK K; try clear kk
    refine awp_first fun K kk hK => ?_
    simp only [go_sem]
    refine hK _ _ fun nx => ?_; clear hK K; try clear kk
    refine awp_seq ?_
    refine awp_first fun K kk hK => ?_
    simp only [go_sem]
    refine hK _ _ fun nx => ?_; clear hK K; try clear kk
    obtain ⟨e0, f0, hh⟩ := bind_ex hh
    obtain ⟨hlen0, f0⟩ := chk_some f0
    refine awp_fragE (CutTo (fun s => ∃ left_11, left_11 = e0 ∧ ∃ (i_12 : Int) (v_13 : Bool) (nx : Nat) (g2 : Nat), s = ⟨[(1, .int .i64 left_11), (2, .box 2 g2 0), (5, .int .i64 i_12), (26, .bool v_13)], [(2, g2, .var 53 [.int .u8 l_1.Prim.Op, .str l_1.Prim.Kind, .str l_1.Prim.Name, .str l_1.Prim.New, .list 1 (l_1.Prim.Values.map PV.str), .list 1 (l_1.Prim.To.map PV.str), .bool l_1.Turned, .list 8 (l_1.Kids.map lens_Lens.pv)])], nx⟩))
      (fun i s => False)
      (fun s => False) ?_ ?_ ?_ ?_
    · refine awp_block ?_
      refine awp_loopJ fun I hI => ?_
      have key : ∀ (suf pre : List lens_Lens) (i_6 : Int) (left_5 : Int), l_1.Kids = pre ++ suf → i_6 = (pre.length : Int) → diptychlaw13_light_l0 (diptychlaw13_light_k kr) suf i_6 left_5 = some e0 → ∀ (nx : Nat) (g2 : Nat), I ⟨[(1, .int .i64 left_5), (2, .box 2 g2 0), (5, .int .i64 i_6)], [(2, g2, .var 53 [.int .u8 l_1.Prim.Op, .str l_1.Prim.Kind, .str l_1.Prim.Name, .str l_1.Prim.New, .list 1 (l_1.Prim.Values.map PV.str), .list 1 (l_1.Prim.To.map PV.str), .bool l_1.Turned, .list 8 (l_1.Kids.map lens_Lens.pv)])], nx⟩ := by
        intro suf
        induction suf with
        | nil =>
          intro pre i_6 left_5 hsplit hidx hh nx g2
          rw [diptychlaw13_light_l0] at hh
          refine hI _ ?_
          have h9 := walk_nil hsplit hidx
          refine awp_seq ?_
          refine awp_first fun K kk hK => ?_
          simp only [go_sem, h9, of_decide_eq_false h9, h9, of_decide_eq_false h9]
          (repeat refine sd ?_)
          refine hK _ _ fun nx => ?_; clear hK K; try clear kk
          refine awp_false rfl ?_
          refine awp_exit ?_; refine nmx ?_
          refine fragN ?_
          refine cut_id ?_
          refine ⟨_, (Option.some.inj hh), ?_⟩
          first | exact ⟨_, _, _, _, rfl⟩ | (simp only [lens_Prim.pv_eq, lens_Lens.pv_eq, diptychref13_Prim.pv_eq, diptychref13_Lens.pv_eq, pvL, List.map_cons, List.map_nil, List.map_append, rune1]; exact ⟨_, _, _, _, rfl⟩) | (simp only [lens_Prim.pv_eq, lens_Lens.pv_eq, diptychref13_Prim.pv_eq, diptychref13_Lens.pv_eq, pvL, List.map_cons, List.map_nil, List.map_append, rune1, h9]; exact ⟨_, _, _, _, rfl⟩)
        | cons y_9 suf ih =>
          intro pre i_6 left_5 hsplit hidx hh nx g2
          rw [diptychlaw13_light_l0] at hh
          refine hI _ ?_
          obtain ⟨hl0a, hl0b, hl0d, hl0w, h9⟩ := walk_cons (f := lens_Lens.pv) hsplit hidx hlen0
          refine awp_seq ?_
          refine awp_first fun K kk hK => ?_
          simp only [go_sem, h9, of_decide_eq_true h9, h9, of_decide_eq_true h9, hl0a, hl0b, hl0d, hl0w]
          (repeat refine sd ?_)
          refine hK _ _ fun nx => ?_; clear hK K; try clear kk
          by_cases h10 : (decide (left_5 > (0 : Int))) = true
          · rw [if_pos h10] at hh
            refine awp_true (by first | exact congrArg PV.bool h10 | rfl) ?_
            refine awp_skip ?_; refine nmx ?_
            refine awp_seq ?_
            refine awp_block ?_
            obtain ⟨light_10, h11, hh⟩ := bind_ex hh
            refine awp_region fun K kk hK => ?_
            simp only [go_sem, hl0a, hl0b, hl0d, hl0w]
            refine step_call2 (ih_diptychlaw13_light _ _ _ h11) (by (try simp only [go_sem, hl0a, hl0b, hl0d, hl0w]) <;> exact wkl) (by rfl) (by rfl) ?_
            simp only [go_sem, hl0a, hl0b, hl0d, hl0w]
            refine hK _ _ fun nx => ?_; clear hK K; try clear kk
            refine nmx ?_
            refine awp_region fun K kk hK => ?_
            simp only [go_sem, hl0a, hl0b, hl0d, hl0w]
            refine hK _ _ fun nx => ?_; clear hK K; try clear kk
            refine nmx ?_
            have ih' := ih (pre ++ [y_9]) (i_6 + 1) _ (by rw [hsplit]; simp) (by simp [hidx]) hh nx
            refine cut_id ?_
            first | exact ih' _ | (simp only [lens_Prim.pv_eq, lens_Lens.pv_eq, diptychref13_Prim.pv_eq, diptychref13_Lens.pv_eq, pvL, List.map_cons, List.map_nil, List.map_append, rune1] at ih' ⊢; exact ih' _) | (simp only [lens_Prim.pv_eq, lens_Lens.pv_eq, diptychref13_Prim.pv_eq, diptychref13_Lens.pv_eq, pvL, List.map_cons, List.map_nil, List.map_append, rune1, h10, h9] at ih' ⊢; exact ih' _)
          · rw [if_neg h10] at hh
            replace h10 := Bool.eq_false_iff.mpr h10
            refine awp_false (by first | exact congrArg PV.bool h10 | rfl) ?_
            refine awp_exit ?_; refine nmx ?_
            refine fragN ?_
            refine cut_id ?_
            refine ⟨_, (Option.some.inj hh), ?_⟩
            first | exact ⟨_, _, _, _, rfl⟩ | (simp only [lens_Prim.pv_eq, lens_Lens.pv_eq, diptychref13_Prim.pv_eq, diptychref13_Lens.pv_eq, pvL, List.map_cons, List.map_nil, List.map_append, rune1]; exact ⟨_, _, _, _, rfl⟩) | (simp only [lens_Prim.pv_eq, lens_Lens.pv_eq, diptychref13_Prim.pv_eq, diptychref13_Lens.pv_eq, pvL, List.map_cons, List.map_nil, List.map_append, rune1, h10, h9]; exact ⟨_, _, _, _, rfl⟩)
      exact key l_1.Kids [] _ _ rfl rfl f0 _ _
    · rintro s ⟨t, hless, left_11, rfl, i_12, v_13, nx, g2, rfl⟩
      try dsimp only at hh
      refine nmy ?_
      first | (refine cut_less hless ?_; try refine cut_awp ?_) | refine frag_less hless ?_ | refine body_less hless ?_
      refine awp_seq ?_
      refine awp_first fun K kk hK => ?_
      simp only [go_sem]
      refine hK _ _ fun nx => ?_; clear hK K; try clear kk
      by_cases h12 : (decide (left_11 < (1 : Int))) = true
      · rw [if_pos h12] at hh
        refine awp_true (by first | exact congrArg PV.bool h12 | rfl) ?_
        refine awp_first fun K kk hK => ?_
        simp only [go_sem]
        refine hK _ _ fun nx => ?_; clear hK K; try clear kk
        refine awp_ret ?_; refine nmx ?_
        obtain hR := Option.some.inj hh
        subst hR
        exact ret_p2
      · rw [if_neg h12] at hh
        replace h12 := Bool.eq_false_iff.mpr h12
        refine awp_false (by first | exact congrArg PV.bool h12 | rfl) ?_
        refine awp_skip ?_; refine nmx ?_
        refine awp_first fun K kk hK => ?_
        simp only [go_sem]
        refine hK _ _ fun nx => ?_; clear hK K; try clear kk
        refine awp_ret ?_; refine nmx ?_
        obtain hR := Option.some.inj hh
        subst hR
        exact ret_p2
    · intro i s h; exact h.elim
    · intro s h; exact h.elim
theorem diptychlaw13_light_ok (l_1 : lens_Lens) (left_2 : Int) (R : Int) (hh : diptychlaw13_light l_1 left_2 = some R) : PC Tryd.prog 25 [.agg [.int .u8 l_1.Prim.Op, .str l_1.Prim.Kind, .str l_1.Prim.Name, .str l_1.Prim.New, .list 1 (l_1.Prim.Values.map PV.str), .list 1 (l_1.Prim.To.map PV.str), .bool l_1.Turned, .list 8 (l_1.Kids.map lens_Lens.pv)], .int .i64 left_2] (.int .i64 R) := by
  rw [diptychlaw13_light] at hh
  obtain ⟨kr, hh⟩ := lim_some hh
  exact (diptychlaw13_light_grp kr) _ _ _ hh
theorem diptychlaw13_asPrim_ok (p_1 : lens_Prim) (R : diptychref13_Prim) (hh : diptychlaw13_asPrim p_1 = some R) : PC Tryd.prog 40 [.agg [.int .u8 p_1.Op, .str p_1.Kind, .str p_1.Name, .str p_1.New, .list 1 (p_1.Values.map PV.str), .list 1 (p_1.To.map PV.str)]] (.agg [.int .u8 R.Op, .str R.Kind, .str R.Name, .str R.New, .list 1 (R.Values.map PV.str), .list 1 (R.To.map PV.str)]) := by
  rw [diptychlaw13_asPrim] at hh
  refine start_diptychlaw13_asPrim rfl ?_
  refine awp_first fun K kk hK => ?_
  simp only [go_sem]
  refine hK _ _ fun nx => ?_; clear hK K; try clear kk
  refine awp_first fun K kk hK => ?_
  simp only [go_sem]
  refine hK _ _ fun nx => ?_; clear hK K; try clear kk
  refine awp_ret ?_; refine nmx ?_
  obtain hR := Option.some.inj hh
  subst hR
  exact ret_p2
theorem diptychlaw13_asLens_grp : ∀ kr : Nat, (∀ (l_1 : lens_Lens) (R : diptychref13_Lens), diptychlaw13_asLens_k kr l_1 = some R → PC Tryd.prog 26 [.agg [.int .u8 l_1.Prim.Op, .str l_1.Prim.Kind, .str l_1.Prim.Name, .str l_1.Prim.New, .list 1 (l_1.Prim.Values.map PV.str), .list 1 (l_1.Prim.To.map PV.str), .bool l_1.Turned, .list 8 (l_1.Kids.map lens_Lens.pv)]] (.agg [.int .u8 R.Prim.Op, .str R.Prim.Kind, .str R.Prim.Name, .str R.Prim.New, .list 1 (R.Prim.Values.map PV.str), .list 1 (R.Prim.To.map PV.str), .bool R.Turned, .list 8 (R.Kids.map diptychref13_Lens.pv)])) := by
  intro kr
  induction kr with
  | zero => exact (by intro l_1 R hh; rw [diptychlaw13_asLens_k] at hh; cases hh)
  | succ kr ih =>
    have ih_diptychlaw13_asLens := ih
    clear ih
    intro l_1 R hh
    rw [diptychlaw13_asLens_k] at hh
    refine start_diptychlaw13_asLens rfl ?_
    refine awp_first fun K kk hK => ?_
    simp only [go_sem]
    refine hK _ _ fun nx => ?_; clear hK K; try clear kk
    obtain ⟨asprim_2, h1, hh⟩ := bind_ex hh
    refine awp_first fun K kk hK => ?_
    simp only [go_sem]
    refine step_call2 (diptychlaw13_asPrim_ok _ _ h1) (by (try simp only [go_sem]) <;> exact wkl) (by rfl) (by rfl) ?_
    simp only [go_sem]
    refine hK _ _ fun nx => ?_; clear hK K; try clear kk
    refine awp_seq ?_
    refine awp_first fun K kk hK => ?_
    simp only [go_sem]
    refine hK _ _ fun nx => ?_; clear hK K; try clear kk
    obtain ⟨e0, f0, hh⟩ := bind_ex hh
    obtain ⟨hlen0, f0⟩ := chk_some f0
    refine awp_fragE (CutTo (fun s => ∃ v_16, v_16 = e0 ∧ ∃ (i_14 : Int) (v_15 : Bool) (nx : Nat) (g1 : Nat) (g2 : Nat) (g3 : Nat) (g328 : Nat), s = ⟨[(1, .box 1 g1 0), (2, .box 2 g2 0), (3, .box 3 g3 0), (4, .int .i64 i_14), (15, .bool v_15)], [(1, g1, .var 53 [.int .u8 l_1.Prim.Op, .str l_1.Prim.Kind, .str l_1.Prim.Name, .str l_1.Prim.New, .list 1 (l_1.Prim.Values.map PV.str), .list 1 (l_1.Prim.To.map PV.str), .bool l_1.Turned, .list 8 (l_1.Kids.map lens_Lens.pv)]), (2, g2, .var 58 [.int .u8 (0 : Int), .str ([] : Str), .str ([] : Str), .str ([] : Str), .list 1 ([].map PV.str), .list 1 ([].map PV.str), .bool false, .list 8 ([].map diptychref13_Lens.pv)]), (3, g3, .var 58 [.int .u8 asprim_2.Op, .str asprim_2.Kind, .str asprim_2.Name, .str asprim_2.New, .list 1 (asprim_2.Values.map PV.str), .list 1 (asprim_2.To.map PV.str), .bool l_1.Turned, .row 328 g328 v_16.length]), (328, g328, .row false 8 (v_16.map diptychref13_Lens.pv))], nx⟩))
      (fun i s => False)
      (fun s => False) ?_ ?_ ?_ ?_
    · refine awp_block ?_
      refine awp_loopJ fun I hI => ?_
      have key : ∀ (suf pre : List lens_Lens) (i_6 : Int) (v_7 : (List diptychref13_Lens)), l_1.Kids = pre ++ suf → i_6 = (pre.length : Int) → diptychlaw13_asLens_l0 (diptychlaw13_asLens_k kr) suf i_6 v_7 = some e0 → ∀ (nx : Nat) (g1 : Nat) (g2 : Nat) (g3 : Nat) (g328 : Nat), I ⟨[(1, .box 1 g1 0), (2, .box 2 g2 0), (3, .box 3 g3 0), (4, .int .i64 i_6)], [(1, g1, .var 53 [.int .u8 l_1.Prim.Op, .str l_1.Prim.Kind, .str l_1.Prim.Name, .str l_1.Prim.New, .list 1 (l_1.Prim.Values.map PV.str), .list 1 (l_1.Prim.To.map PV.str), .bool l_1.Turned, .list 8 (l_1.Kids.map lens_Lens.pv)]), (2, g2, .var 58 [.int .u8 (0 : Int), .str ([] : Str), .str ([] : Str), .str ([] : Str), .list 1 ([].map PV.str), .list 1 ([].map PV.str), .bool false, .list 8 ([].map diptychref13_Lens.pv)]), (3, g3, .var 58 [.int .u8 asprim_2.Op, .str asprim_2.Kind, .str asprim_2.Name, .str asprim_2.New, .list 1 (asprim_2.Values.map PV.str), .list 1 (asprim_2.To.map PV.str), .bool l_1.Turned, .row 328 g328 v_7.length]), (328, g328, .row false 8 (v_7.map diptychref13_Lens.pv))], nx⟩ := by
        intro suf
        induction suf with
        | nil =>
          intro pre i_6 v_7 hsplit hidx hh nx g1 g2 g3 g328
          rw [diptychlaw13_asLens_l0] at hh
          refine hI _ ?_
          have h10 := walk_nil hsplit hidx
          refine awp_seq ?_
          refine awp_first fun K kk hK => ?_
          simp only [go_sem]
          refine hK _ _ fun nx => ?_; clear hK K; try clear kk
          refine awp_false (by first | exact congrArg PV.bool h10 | rfl) ?_
          refine awp_exit ?_; refine nmx ?_
          refine fragN ?_
          refine cut_id ?_
          refine ⟨_, (Option.some.inj hh), ?_⟩
          first | exact ⟨_, _, _, _, _, _, _, rfl⟩ | (simp only [lens_Prim.pv_eq, lens_Lens.pv_eq, diptychref13_Prim.pv_eq, diptychref13_Lens.pv_eq, pvL, List.map_cons, List.map_nil, List.map_append, rune1]; exact ⟨_, _, _, _, _, _, _, rfl⟩) | (simp only [lens_Prim.pv_eq, lens_Lens.pv_eq, diptychref13_Prim.pv_eq, diptychref13_Lens.pv_eq, pvL, List.map_cons, List.map_nil, List.map_append, rune1, h10]; exact ⟨_, _, _, _, _, _, _, rfl⟩)
        | cons y_11 suf ih =>
          intro pre i_6 v_7 hsplit hidx hh nx g1 g2 g3 g328
          rw [diptychlaw13_asLens_l0] at hh
          refine hI _ ?_
          obtain ⟨hl0a, hl0b, hl0d, hl0w, h10⟩ := walk_cons (f := lens_Lens.pv) hsplit hidx hlen0
          refine awp_seq ?_
          refine awp_first fun K kk hK => ?_
          simp only [go_sem]
          refine hK _ _ fun nx => ?_; clear hK K; try clear kk
          refine awp_true (by first | exact congrArg PV.bool h10 | rfl) ?_
          refine awp_skip ?_; refine nmx ?_
          refine awp_seq ?_
          refine awp_block ?_
          obtain ⟨aslens_12, h11, hh⟩ := bind_ex hh
          obtain ⟨l_13, h12, hh⟩ := bind_ex hh
          obtain ⟨h12a, h12c⟩ := app_some h12
          have h12d := app_map (f := diptychref13_Lens.pv) h12c
          have h12e := app_len h12c
          try simp only [List.length_cons, List.length_nil, Nat.zero_add, Nat.reduceAdd] at h12a h12e
          try simp only [h12e] at h12a
          try simp only [List.map_cons, List.map_nil, List.nil_append, List.append_nil, List.cons_append, List.singleton_append, rune1, lens_Prim.pv_eq, lens_Lens.pv_eq, diptychref13_Prim.pv_eq, diptychref13_Lens.pv_eq, pvL] at h12d
          refine awp_region fun K kk hK => ?_
          simp only [go_sem, h12a, h12d, h12e, hl0a, hl0b, hl0d, hl0w]
          (repeat refine sd ?_)
          refine step_call2 (ih_diptychlaw13_asLens _ _ h11) (by (try simp only [go_sem, h12a, h12d, h12e, hl0a, hl0b, hl0d, hl0w]) <;> exact wkl) (by rfl) (by rfl) ?_
          simp only [go_sem, h12a, h12d, h12e, hl0a, hl0b, hl0d, hl0w]
          (repeat refine sd ?_)
          refine hK _ _ fun nx => ?_; clear hK K; try clear kk
          refine nmx ?_
          refine awp_region fun K kk hK => ?_
          simp only [go_sem, hl0a, hl0b, hl0d, hl0w]
          refine hK _ _ fun nx => ?_; clear hK K; try clear kk
          refine nmx ?_
          have ih' := ih (pre ++ [y_11]) (i_6 + 1) _ (by rw [hsplit]; simp) (by simp [hidx]) hh nx
          refine cut_id ?_
          first | exact ih' _ _ _ _ | (simp only [lens_Prim.pv_eq, lens_Lens.pv_eq, diptychref13_Prim.pv_eq, diptychref13_Lens.pv_eq, pvL, List.map_cons, List.map_nil, List.map_append, rune1, h12e] at ih' ⊢; exact ih' _ _ _ _) | (simp only [lens_Prim.pv_eq, lens_Lens.pv_eq, diptychref13_Prim.pv_eq, diptychref13_Lens.pv_eq, pvL, List.map_cons, List.map_nil, List.map_append, rune1, h12e, h10] at ih' ⊢; exact ih' _ _ _ _)
      exact key l_1.Kids [] _ _ rfl rfl f0 _ _ _ _ _
    · rintro s ⟨t, hless, v_16, rfl, i_14, v_15, nx, g1, g2, g3, g328, rfl⟩
      try dsimp only at hh
      refine nmy ?_
      first | (refine cut_less hless ?_; try refine cut_awp ?_) | refine frag_less hless ?_ | refine body_less hless ?_
      refine awp_first fun K kk hK => ?_
      simp only [go_sem]
      refine hK _ _ fun nx => ?_; clear hK K; try clear kk
      refine awp_ret ?_; refine nmx ?_
      obtain hR := Option.some.inj hh
      subst hR
      exact ret_p2
    · intro i s h; exact h.elim
    · intro s h; exact h.elim
theorem diptychlaw13_asLens_ok (l_1 : lens_Lens) (R : diptychref13_Lens) (hh : diptychlaw13_asLens l_1 = some R) : PC Tryd.prog 26 [.agg [.int .u8 l_1.Prim.Op, .str l_1.Prim.Kind, .str l_1.Prim.Name, .str l_1.Prim.New, .list 1 (l_1.Prim.Values.map PV.str), .list 1 (l_1.Prim.To.map PV.str), .bool l_1.Turned, .list 8 (l_1.Kids.map lens_Lens.pv)]] (.agg [.int .u8 R.Prim.Op, .str R.Prim.Kind, .str R.Prim.Name, .str R.Prim.New, .list 1 (R.Prim.Values.map PV.str), .list 1 (R.Prim.To.map PV.str), .bool R.Turned, .list 8 (R.Kids.map diptychref13_Lens.pv)]) := by
  rw [diptychlaw13_asLens] at hh
  obtain ⟨kr, hh⟩ := lim_some hh
  exact (diptychlaw13_asLens_grp kr) _ _ hh
theorem diptychref13_many_grp : ∀ kr : Nat, (∀ (l_1 : diptychref13_Lens) (R : Int), diptychref13_many_k kr l_1 = some R → PC Tryd.prog 74 [.agg [.int .u8 l_1.Prim.Op, .str l_1.Prim.Kind, .str l_1.Prim.Name, .str l_1.Prim.New, .list 1 (l_1.Prim.Values.map PV.str), .list 1 (l_1.Prim.To.map PV.str), .bool l_1.Turned, .list 8 (l_1.Kids.map diptychref13_Lens.pv)]] (.int .i64 R)) := by
  intro kr
  induction kr with
  | zero => exact (by intro l_1 R hh; rw [diptychref13_many_k] at hh; cases hh)
  | succ kr ih =>
    have ih_diptychref13_many := ih
    clear ih
    intro l_1 R hh
    rw [diptychref13_many_k] at hh
    refine start_diptychref13_many rfl ?_
    refine awp_first fun K kk hK => ?_
    simp only [go_sem]
    refine hK _ _ fun nx => ?_; clear hK K; try clear kk
    refine awp_first fun K kk hK => ?_
    simp only [go_sem]
    refine hK _ _ fun nx => ?_; clear hK K; try clear kk
    refine awp_seq ?_
    refine awp_first fun K kk hK => ?_
    simp only [go_sem]
    refine hK _ _ fun nx => ?_; clear hK K; try clear kk
    obtain ⟨e0, f0, hh⟩ := bind_ex hh
    obtain ⟨hlen0, f0⟩ := chk_some f0
    refine awp_fragE (CutTo (fun s => ∃ n_10, n_10 = e0 ∧ ∃ (i_11 : Int) (v_12 : Bool) (nx : Nat) (g1 : Nat), s = ⟨[(1, .box 1 g1 0), (3, .int .i64 n_10), (4, .int .i64 i_11), (9, .bool v_12)], [(1, g1, .var 58 [.int .u8 l_1.Prim.Op, .str l_1.Prim.Kind, .str l_1.Prim.Name, .str l_1.Prim.New, .list 1 (l_1.Prim.Values.map PV.str), .list 1 (l_1.Prim.To.map PV.str), .bool l_1.Turned, .list 8 (l_1.Kids.map diptychref13_Lens.pv)])], nx⟩))
      (fun i s => False)
      (fun s => False) ?_ ?_ ?_ ?_
    · refine awp_block ?_
      refine awp_loopJ fun I hI => ?_
      have key : ∀ (suf pre : List diptychref13_Lens) (i_5 : Int) (n_4 : Int), l_1.Kids = pre ++ suf → i_5 = (pre.length : Int) → diptychref13_many_l0 (diptychref13_many_k kr) suf i_5 n_4 = some e0 → ∀ (nx : Nat) (g1 : Nat), I ⟨[(1, .box 1 g1 0), (3, .int .i64 n_4), (4, .int .i64 i_5)], [(1, g1, .var 58 [.int .u8 l_1.Prim.Op, .str l_1.Prim.Kind, .str l_1.Prim.Name, .str l_1.Prim.New, .list 1 (l_1.Prim.Values.map PV.str), .list 1 (l_1.Prim.To.map PV.str), .bool l_1.Turned, .list 8 (l_1.Kids.map diptychref13_Lens.pv)])], nx⟩ := by
        intro suf
        induction suf with
        | nil =>
          intro pre i_5 n_4 hsplit hidx hh nx g1
          rw [diptychref13_many_l0] at hh
          refine hI _ ?_
          have h7 := walk_nil hsplit hidx
          refine awp_seq ?_
          refine awp_first fun K kk hK => ?_
          simp only [go_sem]
          refine hK _ _ fun nx => ?_; clear hK K; try clear kk
          refine awp_false (by first | exact congrArg PV.bool h7 | rfl) ?_
          refine awp_exit ?_; refine nmx ?_
          refine fragN ?_
          refine cut_id ?_
          refine ⟨_, (Option.some.inj hh), ?_⟩
          first | exact ⟨_, _, _, _, rfl⟩ | (simp only [lens_Prim.pv_eq, lens_Lens.pv_eq, diptychref13_Prim.pv_eq, diptychref13_Lens.pv_eq, pvL, List.map_cons, List.map_nil, List.map_append, rune1]; exact ⟨_, _, _, _, rfl⟩) | (simp only [lens_Prim.pv_eq, lens_Lens.pv_eq, diptychref13_Prim.pv_eq, diptychref13_Lens.pv_eq, pvL, List.map_cons, List.map_nil, List.map_append, rune1, h7]; exact ⟨_, _, _, _, rfl⟩)
        | cons y_8 suf ih =>
          intro pre i_5 n_4 hsplit hidx hh nx g1
          rw [diptychref13_many_l0] at hh
          refine hI _ ?_
          obtain ⟨hl0a, hl0b, hl0d, hl0w, h7⟩ := walk_cons (f := diptychref13_Lens.pv) hsplit hidx hlen0
          refine awp_seq ?_
          refine awp_first fun K kk hK => ?_
          simp only [go_sem]
          refine hK _ _ fun nx => ?_; clear hK K; try clear kk
          refine awp_true (by first | exact congrArg PV.bool h7 | rfl) ?_
          refine awp_skip ?_; refine nmx ?_
          refine awp_seq ?_
          refine awp_block ?_
          obtain ⟨many_9, h8, hh⟩ := bind_ex hh
          refine awp_region fun K kk hK => ?_
          simp only [go_sem, hl0a, hl0b, hl0d, hl0w]
          refine step_call2 (ih_diptychref13_many _ _ h8) (by (try simp only [go_sem, hl0a, hl0b, hl0d, hl0w]) <;> exact wkl) (by rfl) (by rfl) ?_
          simp only [go_sem, hl0a, hl0b, hl0d, hl0w]
          refine hK _ _ fun nx => ?_; clear hK K; try clear kk
          refine nmx ?_
          refine awp_region fun K kk hK => ?_
          simp only [go_sem, hl0a, hl0b, hl0d, hl0w]
          refine hK _ _ fun nx => ?_; clear hK K; try clear kk
          refine nmx ?_
          have ih' := ih (pre ++ [y_8]) (i_5 + 1) _ (by rw [hsplit]; simp) (by simp [hidx]) hh nx
          refine cut_id ?_
          first | exact ih' _ | (simp only [lens_Prim.pv_eq, lens_Lens.pv_eq, diptychref13_Prim.pv_eq, diptychref13_Lens.pv_eq, pvL, List.map_cons, List.map_nil, List.map_append, rune1] at ih' ⊢; exact ih' _) | (simp only [lens_Prim.pv_eq, lens_Lens.pv_eq, diptychref13_Prim.pv_eq, diptychref13_Lens.pv_eq, pvL, List.map_cons, List.map_nil, List.map_append, rune1, h7] at ih' ⊢; exact ih' _)
      exact key l_1.Kids [] _ _ rfl rfl f0 _ _
    · rintro s ⟨t, hless, n_10, rfl, i_11, v_12, nx, g1, rfl⟩
      try dsimp only at hh
      refine nmy ?_
      first | (refine cut_less hless ?_; try refine cut_awp ?_) | refine frag_less hless ?_ | refine body_less hless ?_
      refine awp_first fun K kk hK => ?_
      simp only [go_sem]
      refine hK _ _ fun nx => ?_; clear hK K; try clear kk
      refine awp_ret ?_; refine nmx ?_
      obtain hR := Option.some.inj hh
      subst hR
      exact ret_p2
    · intro i s h; exact h.elim
    · intro s h; exact h.elim
theorem diptychref13_many_ok (l_1 : diptychref13_Lens) (R : Int) (hh : diptychref13_many l_1 = some R) : PC Tryd.prog 74 [.agg [.int .u8 l_1.Prim.Op, .str l_1.Prim.Kind, .str l_1.Prim.Name, .str l_1.Prim.New, .list 1 (l_1.Prim.Values.map PV.str), .list 1 (l_1.Prim.To.map PV.str), .bool l_1.Turned, .list 8 (l_1.Kids.map diptychref13_Lens.pv)]] (.int .i64 R) := by
  rw [diptychref13_many] at hh
  obtain ⟨kr, hh⟩ := lim_some hh
  exact (diptychref13_many_grp kr) _ _ hh
theorem diptychref1_Name_ok (s_1 : Str) (R : Bool) (hh : diptychref1_Name s_1 = some R) : PC Tryd.prog 124 [.str s_1] (.bool R) := by
  rw [diptychref1_Name] at hh
  refine start_diptychref1_Name rfl ?_
  refine awp_first fun K kk hK => ?_
  simp only [go_sem]
  refine hK _ _ fun nx => ?_; clear hK K; try clear kk
  refine awp_seq ?_
  refine awp_first fun K kk hK => ?_
  simp only [go_sem]
  refine hK _ _ fun nx => ?_; clear hK K; try clear kk
  obtain ⟨e0, f0, hh⟩ := bind_ex hh
  refine awp_fragE (CutTo (fun s => .inr () = e0 ∧ ∃ (i_4 : Int) (v_5 : Bool) (nx : Nat), s = ⟨[(0, .str s_1), (3, .int .i64 i_4), (7, .bool v_5)], [], nx⟩))
    (fun i s => False)
    (fun s => ∃ res_3, .inl res_3 = e0 ∧ bodyR Tryd.prog [.tmp 2] (.bool res_3) [] .ret s) ?_ ?_ ?_ ?_
  · refine awp_block ?_
    refine awp_loopJ fun I hI => ?_
    obtain ⟨k, f0⟩ := lim_some f0
    have key : ∀ (k : Nat) (i_2 : Int), diptychref1_Name_l0 s_1 k i_2 = some e0 → ∀ (nx : Nat), I ⟨[(0, .str s_1), (3, .int .i64 i_2)], [], nx⟩ := by
      intro k
      induction k with
      | zero => intro i_2 hh; rw [diptychref1_Name_l0] at hh; cases hh
      | succ k ih =>
        intro i_2 hh nx
        rw [diptychref1_Name_l0] at hh
        refine hI _ ?_
        refine awp_seq ?_
        refine awp_first fun K kk hK => ?_
        simp only [go_sem]
        refine hK _ _ fun nx => ?_; clear hK K; try clear kk
        by_cases h6 : (decide (i_2 < (s_1.length : Int))) = true
        · rw [if_pos h6] at hh
          refine awp_true (by first | exact congrArg PV.bool h6 | rfl) ?_
          refine awp_skip ?_; refine nmx ?_
          refine awp_seq ?_
          refine awp_block ?_
          obtain ⟨h7, hh⟩ := chk_some hh
          by_cases h8 : (decide (((s_1.getD i_2.toNat 0).toNat : Int) < (97 : Int))) = true
          · rw [if_pos h8] at hh
            refine awp_first fun K kk hK => ?_
            simp only [go_sem, h7.1, h7.2, h8, of_decide_eq_true h8, h8, of_decide_eq_true h8]
            (repeat refine sd ?_)
            refine hK _ _ fun nx => ?_; clear hK K; try clear kk
            refine awp_true rfl ?_
            refine awp_first fun K kk hK => ?_
            simp only [go_sem]
            refine hK _ _ fun nx => ?_; clear hK K; try clear kk
            refine awp_ret ?_; refine nmx ?_
            refine fragR ⟨_, (Option.some.inj hh), ?_⟩
            exact ret_p2
          · rw [if_neg h8] at hh
            replace h8 := Bool.eq_false_iff.mpr h8
            obtain ⟨h9, hh⟩ := chk_some hh
            refine awp_first fun K kk hK => ?_
            simp only [go_sem, h7.1, h7.2, h8, of_decide_eq_false h8, h9.1, h9.2, h8, of_decide_eq_false h8]
            (repeat refine sd ?_)
            refine hK _ _ fun nx => ?_; clear hK K; try clear kk
            by_cases h10 : (decide (((s_1.getD i_2.toNat 0).toNat : Int) > (122 : Int))) = true
            · rw [if_pos h10] at hh
              refine awp_true (by first | exact congrArg PV.bool h10 | rfl) ?_
              refine awp_first fun K kk hK => ?_
              simp only [go_sem]
              refine hK _ _ fun nx => ?_; clear hK K; try clear kk
              refine awp_ret ?_; refine nmx ?_
              refine fragR ⟨_, (Option.some.inj hh), ?_⟩
              exact ret_p2
            · rw [if_neg h10] at hh
              replace h10 := Bool.eq_false_iff.mpr h10
              refine awp_false (by first | exact congrArg PV.bool h10 | rfl) ?_
              refine awp_skip ?_; refine nmx ?_
              refine awp_region fun K kk hK => ?_
              simp only [go_sem]
              refine hK _ _ fun nx => ?_; clear hK K; try clear kk
              refine nmx ?_
              have ih' := ih _ hh nx
              refine cut_id ?_
              first | exact ih' | (simp only [lens_Prim.pv_eq, lens_Lens.pv_eq, diptychref13_Prim.pv_eq, diptychref13_Lens.pv_eq, pvL, List.map_cons, List.map_nil, List.map_append, rune1] at ih' ⊢; exact ih') | (simp only [lens_Prim.pv_eq, lens_Lens.pv_eq, diptychref13_Prim.pv_eq, diptychref13_Lens.pv_eq, pvL, List.map_cons, List.map_nil, List.map_append, rune1, h10, h6, h8] at ih' ⊢; exact ih')
        · rw [if_neg h6] at hh
          replace h6 := Bool.eq_false_iff.mpr h6
          refine awp_false (by first | exact congrArg PV.bool h6 | rfl) ?_
          refine awp_exit ?_; refine nmx ?_
          refine fragN ?_
          refine cut_id ?_
          refine ⟨(Option.some.inj hh), ?_⟩
          first | exact ⟨_, _, _, rfl⟩ | (simp only [lens_Prim.pv_eq, lens_Lens.pv_eq, diptychref13_Prim.pv_eq, diptychref13_Lens.pv_eq, pvL, List.map_cons, List.map_nil, List.map_append, rune1]; exact ⟨_, _, _, rfl⟩) | (simp only [lens_Prim.pv_eq, lens_Lens.pv_eq, diptychref13_Prim.pv_eq, diptychref13_Lens.pv_eq, pvL, List.map_cons, List.map_nil, List.map_append, rune1, h6]; exact ⟨_, _, _, rfl⟩)
    exact key _ _ f0 _
  · rintro s ⟨t, hless, rfl, i_4, v_5, nx, rfl⟩
    try dsimp only at hh
    refine nmy ?_
    first | (refine cut_less hless ?_; try refine cut_awp ?_) | refine frag_less hless ?_ | refine body_less hless ?_
    by_cases h11 : (decide ((s_1.length : Int) ≥ (1 : Int))) = true
    · rw [if_pos h11] at hh
      by_cases h12 : (decide ((s_1.length : Int) ≤ (8 : Int))) = true
      · rw [if_pos h12] at hh
        refine awp_first fun K kk hK => ?_
        simp only [go_sem, h11, of_decide_eq_true h11, h11, of_decide_eq_true h11, h12, of_decide_eq_true h12, h12, of_decide_eq_true h12]
        (repeat refine sd ?_)
        refine hK _ _ fun nx => ?_; clear hK K; try clear kk
        refine awp_ret ?_; refine nmx ?_
        obtain hR := Option.some.inj hh
        subst hR
        exact ret_p2
      · rw [if_neg h12] at hh
        replace h12 := Bool.eq_false_iff.mpr h12
        refine awp_first fun K kk hK => ?_
        simp only [go_sem, h11, of_decide_eq_true h11, h11, of_decide_eq_true h11, h12, of_decide_eq_false h12, h12, of_decide_eq_false h12]
        (repeat refine sd ?_)
        refine hK _ _ fun nx => ?_; clear hK K; try clear kk
        refine awp_ret ?_; refine nmx ?_
        obtain hR := Option.some.inj hh
        subst hR
        exact ret_p2
    · rw [if_neg h11] at hh
      replace h11 := Bool.eq_false_iff.mpr h11
      refine awp_first fun K kk hK => ?_
      simp only [go_sem, h11, of_decide_eq_false h11, h11, of_decide_eq_false h11]
      (repeat refine sd ?_)
      refine hK _ _ fun nx => ?_; clear hK K; try clear kk
      refine awp_ret ?_; refine nmx ?_
      obtain hR := Option.some.inj hh
      subst hR
      exact ret_p2
  · intro i s h; exact h.elim
  · rintro s ⟨res_3, rfl, hb⟩
    try dsimp only at hh
    obtain hR := Option.some.inj hh
    subst hR
    refine nmx ?_
    exact hb
theorem diptychref13_all_ok (names_1 : (List Str)) (empty_2 : (List Str)) (R : Bool) (hh : diptychref13_all names_1 empty_2 = some R) : PC Tryd.prog 104 [.list 1 (names_1.map PV.str), .list 1 (empty_2.map PV.str)] (.bool R) := by
  rw [diptychref13_all] at hh
  refine start_diptychref13_all rfl ?_
  refine awp_first fun K kk hK => ?_
  simp only [go_sem]
  refine hK _ _ fun nx => ?_; clear hK K; try clear kk
  refine awp_seq ?_
  refine awp_first fun K kk hK => ?_
  simp only [go_sem]
  refine hK _ _ fun nx => ?_; clear hK K; try clear kk
  obtain ⟨e0, f0, hh⟩ := bind_ex hh
  obtain ⟨hlen0, f0⟩ := chk_some f0
  refine awp_fragE (CutTo (fun s => .inr () = e0 ∧ ∃ (i_11 : Int) (v_12 : Bool) (nx : Nat), s = ⟨[(0, .list 1 (names_1.map PV.str)), (1, .list 1 (empty_2.map PV.str)), (5, .int .i64 i_11), (10, .bool v_12)], [], nx⟩))
    (fun i s => False)
    (fun s => ∃ res_10, .inl res_10 = e0 ∧ bodyR Tryd.prog [.tmp 4] (.bool res_10) [] .ret s) ?_ ?_ ?_ ?_
  · refine awp_block ?_
    refine awp_loopJ fun I hI => ?_
    have key : ∀ (suf pre : List Str) (i_5 : Int), names_1 = pre ++ suf → i_5 = (pre.length : Int) → diptychref13_all_l0 suf i_5 = some e0 → ∀ (nx : Nat), I ⟨[(0, .list 1 (names_1.map PV.str)), (1, .list 1 (empty_2.map PV.str)), (5, .int .i64 i_5)], [], nx⟩ := by
      intro suf
      induction suf with
      | nil =>
        intro pre i_5 hsplit hidx hh nx
        rw [diptychref13_all_l0] at hh
        refine hI _ ?_
        have h9 := walk_nil hsplit hidx
        refine awp_seq ?_
        refine awp_first fun K kk hK => ?_
        simp only [go_sem]
        refine hK _ _ fun nx => ?_; clear hK K; try clear kk
        refine awp_false (by first | exact congrArg PV.bool h9 | rfl) ?_
        refine awp_exit ?_; refine nmx ?_
        refine fragN ?_
        refine cut_id ?_
        refine ⟨(Option.some.inj hh), ?_⟩
        first | exact ⟨_, _, _, rfl⟩ | (simp only [lens_Prim.pv_eq, lens_Lens.pv_eq, diptychref13_Prim.pv_eq, diptychref13_Lens.pv_eq, pvL, List.map_cons, List.map_nil, List.map_append, rune1]; exact ⟨_, _, _, rfl⟩) | (simp only [lens_Prim.pv_eq, lens_Lens.pv_eq, diptychref13_Prim.pv_eq, diptychref13_Lens.pv_eq, pvL, List.map_cons, List.map_nil, List.map_append, rune1, h9]; exact ⟨_, _, _, rfl⟩)
      | cons y_8 suf ih =>
        intro pre i_5 hsplit hidx hh nx
        rw [diptychref13_all_l0] at hh
        refine hI _ ?_
        obtain ⟨hl0a, hl0b, hl0d, hl0w, h9⟩ := walk_cons (f := PV.str) hsplit hidx hlen0
        refine awp_seq ?_
        refine awp_first fun K kk hK => ?_
        simp only [go_sem]
        refine hK _ _ fun nx => ?_; clear hK K; try clear kk
        refine awp_true (by first | exact congrArg PV.bool h9 | rfl) ?_
        refine awp_skip ?_; refine nmx ?_
        refine awp_seq ?_
        refine awp_block ?_
        obtain ⟨name_9, h10, hh⟩ := bind_ex hh
        refine awp_first fun K kk hK => ?_
        simp only [go_sem, hl0a, hl0b, hl0d, hl0w]
        refine step_call2 (diptychref1_Name_ok _ _ h10) (by (try simp only [go_sem, hl0a, hl0b, hl0d, hl0w]) <;> exact wkl) (by rfl) (by rfl) ?_
        simp only [go_sem, hl0a, hl0b, hl0d, hl0w]
        refine hK _ _ fun nx => ?_; clear hK K; try clear kk
        by_cases h11 : (!name_9) = true
        · rw [if_pos h11] at hh
          refine awp_true (by first | exact congrArg PV.bool h11 | rfl) ?_
          refine awp_first fun K kk hK => ?_
          simp only [go_sem, hl0a, hl0b, hl0d, hl0w]
          refine hK _ _ fun nx => ?_; clear hK K; try clear kk
          refine awp_ret ?_; refine nmx ?_
          refine fragR ⟨_, (Option.some.inj hh), ?_⟩
          exact ret_p2
        · rw [if_neg h11] at hh
          replace h11 := Bool.eq_false_iff.mpr h11
          refine awp_false (by first | exact congrArg PV.bool h11 | rfl) ?_
          refine awp_skip ?_; refine nmx ?_
          refine awp_region fun K kk hK => ?_
          simp only [go_sem, hl0a, hl0b, hl0d, hl0w]
          refine hK _ _ fun nx => ?_; clear hK K; try clear kk
          refine nmx ?_
          have ih' := ih (pre ++ [y_8]) (i_5 + 1) (by rw [hsplit]; simp) (by simp [hidx]) hh nx
          refine cut_id ?_
          first | exact ih' | (simp only [lens_Prim.pv_eq, lens_Lens.pv_eq, diptychref13_Prim.pv_eq, diptychref13_Lens.pv_eq, pvL, List.map_cons, List.map_nil, List.map_append, rune1] at ih' ⊢; exact ih') | (simp only [lens_Prim.pv_eq, lens_Lens.pv_eq, diptychref13_Prim.pv_eq, diptychref13_Lens.pv_eq, pvL, List.map_cons, List.map_nil, List.map_append, rune1, h11, h9] at ih' ⊢; exact ih')
    exact key names_1 [] _ rfl rfl f0 _
  · rintro s ⟨t, hless, rfl, i_11, v_12, nx, rfl⟩
    try dsimp only at hh
    refine nmy ?_
    first | (refine cut_less hless ?_; try refine cut_awp ?_) | refine frag_less hless ?_ | refine body_less hless ?_
    refine awp_seq ?_
    refine awp_first fun K kk hK => ?_
    simp only [go_sem]
    refine hK _ _ fun nx => ?_; clear hK K; try clear kk
    obtain ⟨e1, f1, hh⟩ := bind_ex hh
    obtain ⟨hlen1, f1⟩ := chk_some f1
    refine awp_fragE (CutTo (fun s => .inr () = e1 ∧ ∃ (i_18 : Int) (v_19 : Bool) (nx : Nat), s = ⟨[(1, .list 1 (empty_2.map PV.str)), (6, .int .i64 i_18), (22, .bool v_19)], [], nx⟩))
      (fun i s => False)
      (fun s => ∃ res_17, .inl res_17 = e1 ∧ bodyR Tryd.prog [.tmp 4] (.bool res_17) [] .ret s) ?_ ?_ ?_ ?_
    · refine awp_block ?_
      refine awp_loopJ fun I hI => ?_
      have key : ∀ (suf pre : List Str) (i_14 : Int), empty_2 = pre ++ suf → i_14 = (pre.length : Int) → diptychref13_all_l1 suf i_14 = some e1 → ∀ (nx : Nat), I ⟨[(1, .list 1 (empty_2.map PV.str)), (6, .int .i64 i_14)], [], nx⟩ := by
        intro suf
        induction suf with
        | nil =>
          intro pre i_14 hsplit hidx hh nx
          rw [diptychref13_all_l1] at hh
          refine hI _ ?_
          have h18 := walk_nil hsplit hidx
          refine awp_seq ?_
          refine awp_first fun K kk hK => ?_
          simp only [go_sem]
          refine hK _ _ fun nx => ?_; clear hK K; try clear kk
          refine awp_false (by first | exact congrArg PV.bool h18 | rfl) ?_
          refine awp_exit ?_; refine nmx ?_
          refine fragN ?_
          refine cut_id ?_
          refine ⟨(Option.some.inj hh), ?_⟩
          first | exact ⟨_, _, _, rfl⟩ | (simp only [lens_Prim.pv_eq, lens_Lens.pv_eq, diptychref13_Prim.pv_eq, diptychref13_Lens.pv_eq, pvL, List.map_cons, List.map_nil, List.map_append, rune1]; exact ⟨_, _, _, rfl⟩) | (simp only [lens_Prim.pv_eq, lens_Lens.pv_eq, diptychref13_Prim.pv_eq, diptychref13_Lens.pv_eq, pvL, List.map_cons, List.map_nil, List.map_append, rune1, h18]; exact ⟨_, _, _, rfl⟩)
        | cons y_16 suf ih =>
          intro pre i_14 hsplit hidx hh nx
          rw [diptychref13_all_l1] at hh
          refine hI _ ?_
          obtain ⟨hl1a, hl1b, hl1d, hl1w, h18⟩ := walk_cons (f := PV.str) hsplit hidx hlen1
          refine awp_seq ?_
          refine awp_first fun K kk hK => ?_
          simp only [go_sem]
          refine hK _ _ fun nx => ?_; clear hK K; try clear kk
          refine awp_true (by first | exact congrArg PV.bool h18 | rfl) ?_
          refine awp_skip ?_; refine nmx ?_
          refine awp_seq ?_
          refine awp_block ?_
          refine awp_first fun K kk hK => ?_
          simp only [go_sem, hl1a, hl1b, hl1d, hl1w]
          refine hK _ _ fun nx => ?_; clear hK K; try clear kk
          by_cases h19 : (!(y_16 == ([] : Str))) = true
          · rw [if_pos h19] at hh
            refine awp_true (by first | exact congrArg PV.bool h19 | rfl) ?_
            refine awp_first fun K kk hK => ?_
            simp only [go_sem, hl1a, hl1b, hl1d, hl1w]
            refine hK _ _ fun nx => ?_; clear hK K; try clear kk
            refine awp_ret ?_; refine nmx ?_
            refine fragR ⟨_, (Option.some.inj hh), ?_⟩
            exact ret_p2
          · rw [if_neg h19] at hh
            replace h19 := Bool.eq_false_iff.mpr h19
            refine awp_false (by first | exact congrArg PV.bool h19 | rfl) ?_
            refine awp_skip ?_; refine nmx ?_
            refine awp_region fun K kk hK => ?_
            simp only [go_sem, hl1a, hl1b, hl1d, hl1w]
            refine hK _ _ fun nx => ?_; clear hK K; try clear kk
            refine nmx ?_
            have ih' := ih (pre ++ [y_16]) (i_14 + 1) (by rw [hsplit]; simp) (by simp [hidx]) hh nx
            refine cut_id ?_
            first | exact ih' | (simp only [lens_Prim.pv_eq, lens_Lens.pv_eq, diptychref13_Prim.pv_eq, diptychref13_Lens.pv_eq, pvL, List.map_cons, List.map_nil, List.map_append, rune1] at ih' ⊢; exact ih') | (simp only [lens_Prim.pv_eq, lens_Lens.pv_eq, diptychref13_Prim.pv_eq, diptychref13_Lens.pv_eq, pvL, List.map_cons, List.map_nil, List.map_append, rune1, h18, h19] at ih' ⊢; exact ih')
      exact key empty_2 [] _ rfl rfl f1 _
    · rintro s ⟨t, hless, rfl, i_18, v_19, nx, rfl⟩
      try dsimp only at hh
      refine nmy ?_
      first | (refine cut_less hless ?_; try refine cut_awp ?_) | refine frag_less hless ?_ | refine body_less hless ?_
      refine awp_first fun K kk hK => ?_
      simp only [go_sem]
      refine hK _ _ fun nx => ?_; clear hK K; try clear kk
      refine awp_ret ?_; refine nmx ?_
      obtain hR := Option.some.inj hh
      subst hR
      exact ret_p2
    · intro i s h; exact h.elim
    · rintro s ⟨res_17, rfl, hb⟩
      try dsimp only at hh
      obtain hR := Option.some.inj hh
      subst hR
      refine nmx ?_
      exact hb
  · intro i s h; exact h.elim
  · rintro s ⟨res_10, rfl, hb⟩
    try dsimp only at hh
    obtain hR := Option.some.inj hh
    subst hR
    refine nmx ?_
    exact hb
theorem diptychref13_once_ok (l_1 : (List Str)) (least_2 : Int) (R : Bool) (hh : diptychref13_once l_1 least_2 = some R) : PC Tryd.prog 123 [.list 1 (l_1.map PV.str), .int .i64 least_2] (.bool R) := by
  rw [diptychref13_once] at hh
  refine start_diptychref13_once rfl ?_
  refine awp_first fun K kk hK => ?_
  simp only [go_sem]
  refine hK _ _ fun nx => ?_; clear hK K; try clear kk
  refine awp_seq ?_
  refine awp_first fun K kk hK => ?_
  simp only [go_sem]
  refine hK _ _ fun nx => ?_; clear hK K; try clear kk
  obtain ⟨e0, f0, hh⟩ := bind_ex hh
  obtain ⟨hlen0, f0⟩ := chk_some f0
  refine awp_fragE (CutTo (fun s => .inr () = e0 ∧ ∃ (i_32 : Int) (v_33 : Bool) (nx : Nat), s = ⟨[(0, .list 1 (l_1.map PV.str)), (1, .int .i64 least_2), (5, .int .i64 i_32), (10, .bool v_33)], [], nx⟩))
    (fun i s => False)
    (fun s => ∃ res_31, .inl res_31 = e0 ∧ bodyR Tryd.prog [.tmp 4] (.bool res_31) [] .ret s) ?_ ?_ ?_ ?_
  · refine awp_block ?_
    refine awp_loopJ fun I hI => ?_
    have key : ∀ (suf pre : List Str) (i_12 : Int), l_1 = pre ++ suf → i_12 = (pre.length : Int) → diptychref13_once_l0 l_1 suf i_12 = some e0 → ∀ (nx : Nat), I ⟨[(0, .list 1 (l_1.map PV.str)), (1, .int .i64 least_2), (5, .int .i64 i_12)], [], nx⟩ := by
      intro suf
      induction suf with
      | nil =>
        intro pre i_12 hsplit hidx hh nx
        rw [diptychref13_once_l0] at hh
        refine hI _ ?_
        have h24 := walk_nil hsplit hidx
        refine awp_seq ?_
        refine awp_first fun K kk hK => ?_
        simp only [go_sem]
        refine hK _ _ fun nx => ?_; clear hK K; try clear kk
        refine awp_false (by first | exact congrArg PV.bool h24 | rfl) ?_
        refine awp_exit ?_; refine nmx ?_
        refine fragN ?_
        refine cut_id ?_
        refine ⟨(Option.some.inj hh), ?_⟩
        first | exact ⟨_, _, _, rfl⟩ | (simp only [lens_Prim.pv_eq, lens_Lens.pv_eq, diptychref13_Prim.pv_eq, diptychref13_Lens.pv_eq, pvL, List.map_cons, List.map_nil, List.map_append, rune1]; exact ⟨_, _, _, rfl⟩) | (simp only [lens_Prim.pv_eq, lens_Lens.pv_eq, diptychref13_Prim.pv_eq, diptychref13_Lens.pv_eq, pvL, List.map_cons, List.map_nil, List.map_append, rune1, h24]; exact ⟨_, _, _, rfl⟩)
      | cons y_23 suf ih =>
        intro pre i_12 hsplit hidx hh nx
        rw [diptychref13_once_l0] at hh
        refine hI _ ?_
        obtain ⟨hl0a, hl0b, hl0d, hl0w, h24⟩ := walk_cons (f := PV.str) hsplit hidx hlen0
        refine awp_seq ?_
        refine awp_first fun K kk hK => ?_
        simp only [go_sem]
        refine hK _ _ fun nx => ?_; clear hK K; try clear kk
        refine awp_true (by first | exact congrArg PV.bool h24 | rfl) ?_
        refine awp_skip ?_; refine nmx ?_
        refine awp_seq ?_
        refine awp_block ?_
        refine awp_seq ?_
        refine awp_first fun K kk hK => ?_
        simp only [go_sem, hl0a, hl0b, hl0d, hl0w]
        refine hK _ _ fun nx => ?_; clear hK K; try clear kk
        obtain ⟨e3, f3, hh⟩ := bind_ex hh
        refine awp_fragE (CutTo (fun s => .inr () = e3 ∧ ∃ (k_28 : Int) (v_29 : Bool) (nx : Nat), s = ⟨[(0, .list 1 (l_1.map PV.str)), (1, .int .i64 least_2), (5, .int .i64 i_12), (6, .int .i64 k_28), (15, .bool v_29)], [], nx⟩))
          (fun i s => False)
          (fun s => ∃ res_27, .inl res_27 = e3 ∧ bodyR Tryd.prog [.tmp 4] (.bool res_27) [] .ret s) ?_ ?_ ?_ ?_
        · refine awp_block ?_
          refine awp_loopJ fun I hI => ?_
          obtain ⟨k, f3⟩ := lim_some f3
          have key : ∀ (k : Nat) (k_25 : Int), diptychref13_once_l3 l_1 i_12 y_23 k k_25 = some e3 → ∀ (nx : Nat), I ⟨[(0, .list 1 (l_1.map PV.str)), (1, .int .i64 least_2), (5, .int .i64 i_12), (6, .int .i64 k_25)], [], nx⟩ := by
            intro k
            induction k with
            | zero => intro k_25 hh; rw [diptychref13_once_l3] at hh; cases hh
            | succ k ih =>
              intro k_25 hh nx
              rw [diptychref13_once_l3] at hh
              refine hI _ ?_
              refine awp_seq ?_
              refine awp_first fun K kk hK => ?_
              simp only [go_sem, hl0a, hl0b, hl0d, hl0w]
              refine hK _ _ fun nx => ?_; clear hK K; try clear kk
              by_cases h28 : (decide (k_25 < i_12)) = true
              · rw [if_pos h28] at hh
                refine awp_true (by first | exact congrArg PV.bool h28 | rfl) ?_
                refine awp_skip ?_; refine nmx ?_
                refine awp_seq ?_
                refine awp_block ?_
                obtain ⟨x_26, h29, hh⟩ := bind_ex hh
                obtain ⟨h29a, h29b, h29c⟩ := rd_some h29
                have h29d := rd_get (f := PV.str) h29c
                have h29f := rd_more (f := PV.str) h29c
                try simp only [Int.toNat_natCast, Int.reduceToNat] at h29d h29f
                refine awp_first fun K kk hK => ?_
                simp only [go_sem, h29a, h29b, h29d, h29f.1, h29f.2, hl0a, hl0b, hl0d, hl0w]
                (repeat refine sd ?_)
                refine hK _ _ fun nx => ?_; clear hK K; try clear kk
                by_cases h30 : (x_26 == y_23) = true
                · rw [if_pos h30] at hh
                  refine awp_true (by first | exact congrArg PV.bool h30 | rfl) ?_
                  refine awp_first fun K kk hK => ?_
                  simp only [go_sem, hl0a, hl0b, hl0d, hl0w]
                  refine hK _ _ fun nx => ?_; clear hK K; try clear kk
                  refine awp_ret ?_; refine nmx ?_
                  refine fragR ⟨_, (Option.some.inj hh), ?_⟩
                  exact ret_p2
                · rw [if_neg h30] at hh
                  replace h30 := Bool.eq_false_iff.mpr h30
                  refine awp_false (by first | exact congrArg PV.bool h30 | rfl) ?_
                  refine awp_skip ?_; refine nmx ?_
                  refine awp_region fun K kk hK => ?_
                  simp only [go_sem, hl0a, hl0b, hl0d, hl0w]
                  refine hK _ _ fun nx => ?_; clear hK K; try clear kk
                  refine nmx ?_
                  have ih' := ih _ hh nx
                  refine cut_id ?_
                  first | exact ih' | (simp only [lens_Prim.pv_eq, lens_Lens.pv_eq, diptychref13_Prim.pv_eq, diptychref13_Lens.pv_eq, pvL, List.map_cons, List.map_nil, List.map_append, rune1] at ih' ⊢; exact ih') | (simp only [lens_Prim.pv_eq, lens_Lens.pv_eq, diptychref13_Prim.pv_eq, diptychref13_Lens.pv_eq, pvL, List.map_cons, List.map_nil, List.map_append, rune1, h24, h28, h30] at ih' ⊢; exact ih')
              · rw [if_neg h28] at hh
                replace h28 := Bool.eq_false_iff.mpr h28
                refine awp_false (by first | exact congrArg PV.bool h28 | rfl) ?_
                refine awp_exit ?_; refine nmx ?_
                refine fragN ?_
                refine cut_id ?_
                refine ⟨(Option.some.inj hh), ?_⟩
                first | exact ⟨_, _, _, rfl⟩ | (simp only [lens_Prim.pv_eq, lens_Lens.pv_eq, diptychref13_Prim.pv_eq, diptychref13_Lens.pv_eq, pvL, List.map_cons, List.map_nil, List.map_append, rune1]; exact ⟨_, _, _, rfl⟩) | (simp only [lens_Prim.pv_eq, lens_Lens.pv_eq, diptychref13_Prim.pv_eq, diptychref13_Lens.pv_eq, pvL, List.map_cons, List.map_nil, List.map_append, rune1, h24, h28]; exact ⟨_, _, _, rfl⟩)
          exact key _ _ f3 _
        · rintro s ⟨t, hless, rfl, k_28, v_29, nx, rfl⟩
          try dsimp only at hh
          refine nmy ?_
          first | (refine cut_less hless ?_; try refine cut_awp ?_) | refine frag_less hless ?_ | refine body_less hless ?_
          obtain ⟨name_30, h31, hh⟩ := bind_ex hh
          refine awp_first fun K kk hK => ?_
          simp only [go_sem, hl0a, hl0b, hl0d, hl0w]
          refine step_call2 (diptychref1_Name_ok _ _ h31) (by (try simp only [go_sem, hl0a, hl0b, hl0d, hl0w]) <;> exact wkl) (by rfl) (by rfl) ?_
          simp only [go_sem, hl0a, hl0b, hl0d, hl0w]
          refine hK _ _ fun nx => ?_; clear hK K; try clear kk
          by_cases h32 : (!name_30) = true
          · rw [if_pos h32] at hh
            refine awp_true (by first | exact congrArg PV.bool h32 | rfl) ?_
            refine awp_first fun K kk hK => ?_
            simp only [go_sem, hl0a, hl0b, hl0d, hl0w]
            refine hK _ _ fun nx => ?_; clear hK K; try clear kk
            refine awp_ret ?_; refine nmx ?_
            refine fragR ⟨_, (Option.some.inj hh), ?_⟩
            exact ret_p2
          · rw [if_neg h32] at hh
            replace h32 := Bool.eq_false_iff.mpr h32
            refine awp_false (by first | exact congrArg PV.bool h32 | rfl) ?_
            refine awp_skip ?_; refine nmx ?_
            refine awp_region fun K kk hK => ?_
            simp only [go_sem, hl0a, hl0b, hl0d, hl0w]
            refine hK _ _ fun nx => ?_; clear hK K; try clear kk
            refine nmx ?_
            have ih' := ih (pre ++ [y_23]) (i_12 + 1) (by rw [hsplit]; simp) (by simp [hidx]) hh nx
            refine cut_id ?_
            first | exact ih' | (simp only [lens_Prim.pv_eq, lens_Lens.pv_eq, diptychref13_Prim.pv_eq, diptychref13_Lens.pv_eq, pvL, List.map_cons, List.map_nil, List.map_append, rune1] at ih' ⊢; exact ih') | (simp only [lens_Prim.pv_eq, lens_Lens.pv_eq, diptychref13_Prim.pv_eq, diptychref13_Lens.pv_eq, pvL, List.map_cons, List.map_nil, List.map_append, rune1, h24, h32] at ih' ⊢; exact ih')
        · intro i s h; exact h.elim
        · rintro s ⟨res_27, rfl, hb⟩
          try dsimp only at hh
          refine nmx ?_
          exact fragR ⟨_, (Option.some.inj hh), hb⟩
    exact key l_1 [] _ rfl rfl f0 _
  · rintro s ⟨t, hless, rfl, i_32, v_33, nx, rfl⟩
    try dsimp only at hh
    refine nmy ?_
    first | (refine cut_less hless ?_; try refine cut_awp ?_) | refine frag_less hless ?_ | refine body_less hless ?_
    by_cases h33 : (decide ((l_1.length : Int) ≥ least_2)) = true
    · rw [if_pos h33] at hh
      refine awp_first fun K kk hK => ?_
      simp only [go_sem, h33, of_decide_eq_true h33, h33, of_decide_eq_true h33]
      (repeat refine sd ?_)
      refine hK _ _ fun nx => ?_; clear hK K; try clear kk
      refine awp_ret ?_; refine nmx ?_
      obtain hR := Option.some.inj hh
      subst hR
      exact ret_p2
    · rw [if_neg h33] at hh
      replace h33 := Bool.eq_false_iff.mpr h33
      refine awp_first fun K kk hK => ?_
      simp only [go_sem, h33, of_decide_eq_false h33, h33, of_decide_eq_false h33]
      (repeat refine sd ?_)
      refine hK _ _ fun nx => ?_; clear hK K; try clear kk
      refine awp_ret ?_; refine nmx ?_
      obtain hR := Option.some.inj hh
      subst hR
      exact ret_p2
  · intro i s h; exact h.elim
  · rintro s ⟨res_31, rfl, hb⟩
    try dsimp only at hh
    obtain hR := Option.some.inj hh
    subst hR
    refine nmx ?_
    exact hb

end Go.Proofs.YtpjdafhmneiohaaDoor
