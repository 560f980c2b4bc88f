/- What the functions answer, the program answers (8). -/
import Derived.Test.YtpjdafhmneiohaaDoorAgC
import Derived.Test.YtpjdafhmneiohaaDoorAgF
import Derived.Test.YtpjdafhmneiohaaDoorAgK0
import Derived.Test.YtpjdafhmneiohaaDoorAgK1
import Derived.Test.YtpjdafhmneiohaaDoorAgK3
import Derived.Test.YtpjdafhmneiohaaDoorAgK4
import Derived.Test.YtpjdafhmneiohaaDoorAgK6
namespace Go.Proofs.YtpjdafhmneiohaaDoor
set_option linter.unusedSimpArgs false
set_option linter.unusedVariables false
open Go
set_option maxRecDepth 100000

theorem diptychlaw13_LensRows_ok (l_1 : lens_Lens) (R : Bool) (hh : diptychlaw13_LensRows l_1 = some R) : PC Tryd.prog 8 [.agg [.int .u8 l_1.Prim.Op, .str l_1.Prim.Kind, .str l_1.Prim.Name, .str l_1.Prim.New, .list 1 (l_1.Prim.Values.map PV.str), .list 1 (l_1.Prim.To.map PV.str), .bool l_1.Turned, .list 8 (l_1.Kids.map lens_Lens.pv)]] (.bool R) := by
  rw [diptychlaw13_LensRows] at hh
  refine start_diptychlaw13_LensRows rfl ?_
  refine awp_first fun K kk hK => ?_
  simp only [go_sem]
  refine hK _ _ fun nx => ?_; clear hK K; try clear kk
  obtain ⟨shown_2, h1, hh⟩ := bind_ex hh
  refine awp_first fun K kk hK => ?_
  simp only [go_sem]
  refine step_call2 (diptychlaw13_shown_ok _ h1) (by (try simp only [go_sem]) <;> exact wkl) (by rfl) (by rfl) ?_
  simp only [go_sem]
  refine hK _ _ fun nx => ?_; clear hK K; try clear kk
  refine awp_seq ?_
  by_cases h2 : (!shown_2) = true
  · rw [if_pos h2] at hh
    refine awp_first fun K kk hK => ?_
    simp only [go_sem, h2, h2]
    (repeat refine sd ?_)
    refine hK _ _ fun nx => ?_; clear hK K; try clear kk
    refine awp_true rfl ?_
    refine awp_first fun K kk hK => ?_
    simp only [go_sem]
    refine hK _ _ fun nx => ?_; clear hK K; try clear kk
    refine awp_ret ?_; refine nmx ?_
    obtain hR := Option.some.inj hh
    subst hR
    exact ret_p2
  · rw [if_neg h2] at hh
    replace h2 := Bool.eq_false_iff.mpr h2
    obtain ⟨light_3, h3, hh⟩ := bind_ex hh
    by_cases h4 : (decide (light_3 < (0 : Int))) = true
    · rw [if_pos h4] at hh
      refine awp_first fun K kk hK => ?_
      simp only [go_sem, h2, h2, h4, of_decide_eq_true h4, h4, of_decide_eq_true h4]
      (repeat refine sd ?_)
      refine step_call2 (diptychlaw13_light_ok _ _ _ h3) (by (try simp only [go_sem, h2, h2, h4, of_decide_eq_true h4, h4, of_decide_eq_true h4]) <;> exact wkl) (by rfl) (by rfl) ?_
      simp only [go_sem, h2, h2, h4, of_decide_eq_true h4, h4, of_decide_eq_true h4]
      (repeat refine sd ?_)
      refine hK _ _ fun nx => ?_; clear hK K; try clear kk
      refine awp_true rfl ?_
      refine awp_first fun K kk hK => ?_
      simp only [go_sem]
      refine hK _ _ fun nx => ?_; clear hK K; try clear kk
      refine awp_ret ?_; refine nmx ?_
      obtain hR := Option.some.inj hh
      subst hR
      exact ret_p2
    · rw [if_neg h4] at hh
      replace h4 := Bool.eq_false_iff.mpr h4
      obtain ⟨right_4, h5, hh⟩ := bind_ex hh
      refine awp_first fun K kk hK => ?_
      simp only [go_sem, h2, h2, h4, of_decide_eq_false h4, h4, of_decide_eq_false h4]
      (repeat refine sd ?_)
      refine step_call2 (diptychlaw13_light_ok _ _ _ h3) (by (try simp only [go_sem, h2, h2, h4, of_decide_eq_false h4, h4, of_decide_eq_false h4]) <;> exact wkl) (by rfl) (by rfl) ?_
      simp only [go_sem, h2, h2, h4, of_decide_eq_false h4, h4, of_decide_eq_false h4]
      (repeat refine sd ?_)
      refine step_call2 (lens_Right_ok _ _ h5) (by (try simp only [go_sem, h2, h2, h4, of_decide_eq_false h4, h4, of_decide_eq_false h4]) <;> exact wkl) (by rfl) (by rfl) ?_
      simp only [go_sem, h2, h2, h4, of_decide_eq_false h4, h4, of_decide_eq_false h4]
      (repeat refine sd ?_)
      refine hK _ _ fun nx => ?_; clear hK K; try clear kk
      by_cases h6 : (!right_4) = true
      · rw [if_pos h6] at hh
        refine awp_true (by first | exact congrArg PV.bool h6 | rfl) ?_
        refine awp_first fun K kk hK => ?_
        simp only [go_sem]
        refine hK _ _ fun nx => ?_; clear hK K; try clear kk
        refine awp_ret ?_; refine nmx ?_
        obtain hR := Option.some.inj hh
        subst hR
        exact ret_p2
      · rw [if_neg h6] at hh
        replace h6 := Bool.eq_false_iff.mpr h6
        refine awp_false (by first | exact congrArg PV.bool h6 | rfl) ?_
        refine awp_skip ?_; refine nmx ?_
        refine awp_first fun K kk hK => ?_
        simp only [go_sem]
        refine hK _ _ fun nx => ?_; clear hK K; try clear kk
        refine awp_seq ?_
        obtain ⟨e0, f0, hh⟩ := bind_ex hh
        refine awp_frag (fun s => ∃ all_7, all_7 = e0 ∧ ∃ (nx : Nat) (g1 : Nat) (g4 : Nat), s = ⟨[(1, .box 1 g1 0), (4, .row 4 g4 all_7.length)], [(1, g1, .var 53 [.int .u8 l_1.Prim.Op, .str l_1.Prim.Kind, .str l_1.Prim.Name, .str l_1.Prim.New, .list 1 (l_1.Prim.Values.map PV.str), .list 1 (l_1.Prim.To.map PV.str), .bool l_1.Turned, .list 8 (l_1.Kids.map lens_Lens.pv)]), (4, g4, .row false 6 (all_7.map diptychref13_Prim.pv))], nx⟩)
          (fun i s => False)
          (fun s => False) ?_ ?_ ?_ ?_
        · have hh := f0
          refine awp_first fun K kk hK => ?_
          simp only [go_sem]
          refine hK _ _ fun nx => ?_; clear hK K; try clear kk
          by_cases h7 : (l_1.Prim.Op != (0 : Int)) = true
          · rw [if_pos h7] at hh
            refine awp_true (by first | exact congrArg PV.bool h7 | rfl) ?_
            obtain ⟨asprim_5, h8, hh⟩ := bind_ex hh
            obtain ⟨l_6, h9, hh⟩ := bind_ex hh
            obtain ⟨h9a, h9c⟩ := app_some h9
            have h9d := app_map (f := diptychref13_Prim.pv) h9c
            have h9e := (app_len h9c).symm
            try simp only [List.length_cons, List.length_nil, Nat.zero_add, Nat.reduceAdd] at h9a h9e
            try simp only [List.map_cons, List.map_nil, List.nil_append, List.append_nil, List.cons_append, List.singleton_append, rune1, lens_Prim.pv_eq, lens_Lens.pv_eq, diptychref13_Prim.pv_eq, diptychref13_Lens.pv_eq, pvL] at h9d
            have h9g := take_lit (f := diptychref13_Prim.pv) h9e
            have h9h := le_lit h9e h9a
            refine awp_region fun K kk hK => ?_
            simp only [go_sem, h9a, h9d, eq_true h9e, eq_true (Nat.le_of_eq h9e.symm), h9g]
            (repeat refine sd ?_)
            refine step_call2 (diptychlaw13_asPrim_ok _ _ h8) (by (try simp only [go_sem, h9a, h9d, eq_true h9e, eq_true (Nat.le_of_eq h9e.symm), h9g]) <;> exact wkl) (by rfl) (by rfl) ?_
            simp only [go_sem, h9a, h9d, eq_true h9e, eq_true (Nat.le_of_eq h9e.symm), h9g]
            (repeat refine sd ?_)
            refine hK _ _ fun nx => ?_; clear hK K; try clear kk
            refine nmx ?_
            refine fragN ?_
            refine cut_id ?_
            refine ⟨_, (Option.some.inj hh), ?_⟩
            first | exact ⟨_, _, _, rfl⟩ | (simp only [lens_Prim.pv_eq, lens_Lens.pv_eq, diptychref13_Prim.pv_eq, diptychref13_Lens.pv_eq, pvL, List.map_cons, List.map_nil, List.map_append, rune1, h9e]; exact ⟨_, _, _, rfl⟩) | (simp only [lens_Prim.pv_eq, lens_Lens.pv_eq, diptychref13_Prim.pv_eq, diptychref13_Lens.pv_eq, pvL, List.map_cons, List.map_nil, List.map_append, rune1, h9e, h2, h4, h6, h7]; exact ⟨_, _, _, rfl⟩)
          · rw [if_neg h7] at hh
            replace h7 := Bool.eq_false_iff.mpr h7
            refine awp_false (by first | exact congrArg PV.bool h7 | rfl) ?_
            refine awp_skip ?_; refine nmx ?_
            refine fragN ?_
            refine cut_to (less_cut _ [1, 4] [1, 4]) ?_
            refine ⟨_, (Option.some.inj hh), ?_⟩
            first | exact ⟨_, _, _, rfl⟩ | (simp only [lens_Prim.pv_eq, lens_Lens.pv_eq, diptychref13_Prim.pv_eq, diptychref13_Lens.pv_eq, pvL, List.map_cons, List.map_nil, List.map_append, rune1]; exact ⟨_, _, _, rfl⟩) | (simp only [lens_Prim.pv_eq, lens_Lens.pv_eq, diptychref13_Prim.pv_eq, diptychref13_Lens.pv_eq, pvL, List.map_cons, List.map_nil, List.map_append, rune1, h2, h4, h6, h7]; exact ⟨_, _, _, rfl⟩)
        · rintro s ⟨all_7, rfl, nx, g1, g4, rfl⟩
          try dsimp only at hh
          refine awp_seq ?_
          refine awp_first fun K kk hK => ?_
          simp only [go_sem]
          refine hK _ _ fun nx => ?_; clear hK K; try clear kk
          obtain ⟨e1, f1, hh⟩ := bind_ex hh
          obtain ⟨hlen1, f1⟩ := chk_some f1
          refine awp_fragE (CutTo (fun s => ∃ all_60, all_60 = e1 ∧ ∃ (i_58 : Int) (v_59 : Bool) (nx : Nat) (g1 : Nat) (g4 : Nat), s = ⟨[(1, .box 1 g1 0), (4, .row 4 g4 all_60.length), (5, .int .i64 i_58), (39, .bool v_59)], [(1, g1, .var 53 [.int .u8 l_1.Prim.Op, .str l_1.Prim.Kind, .str l_1.Prim.Name, .str l_1.Prim.New, .list 1 (l_1.Prim.Values.map PV.str), .list 1 (l_1.Prim.To.map PV.str), .bool l_1.Turned, .list 8 (l_1.Kids.map lens_Lens.pv)]), (4, g4, .row false 6 (all_60.map diptychref13_Prim.pv))], nx⟩))
            (fun i s => False)
            (fun s => False) ?_ ?_ ?_ ?_
          · refine awp_block ?_
            refine awp_loopJ fun I hI => ?_
            have key : ∀ (suf pre : List lens_Lens) (i_24 : Int) (all_25 : (List diptychref13_Prim)), l_1.Kids = pre ++ suf → i_24 = (pre.length : Int) → diptychlaw13_LensRows_l1 suf i_24 all_25 = some e1 → ∀ (nx : Nat) (g1 : Nat) (g4 : Nat), I ⟨[(1, .box 1 g1 0), (4, .row 4 g4 all_25.length), (5, .int .i64 i_24)], [(1, g1, .var 53 [.int .u8 l_1.Prim.Op, .str l_1.Prim.Kind, .str l_1.Prim.Name, .str l_1.Prim.New, .list 1 (l_1.Prim.Values.map PV.str), .list 1 (l_1.Prim.To.map PV.str), .bool l_1.Turned, .list 8 (l_1.Kids.map lens_Lens.pv)]), (4, g4, .row false 6 (all_25.map diptychref13_Prim.pv))], nx⟩ := by
              intro suf
              induction suf with
              | nil =>
                intro pre i_24 all_25 hsplit hidx hh nx g1 g4
                rw [diptychlaw13_LensRows_l1] at hh
                refine hI _ ?_
                have h38 := walk_nil hsplit hidx
                refine awp_seq ?_
                refine awp_first fun K kk hK => ?_
                simp only [go_sem]
                refine hK _ _ fun nx => ?_; clear hK K; try clear kk
                refine awp_false (by first | exact congrArg PV.bool h38 | rfl) ?_
                refine awp_exit ?_; refine nmx ?_
                refine fragN ?_
                refine cut_id ?_
                refine ⟨_, (Option.some.inj hh), ?_⟩
                first | exact ⟨_, _, _, _, _, rfl⟩ | (simp only [lens_Prim.pv_eq, lens_Lens.pv_eq, diptychref13_Prim.pv_eq, diptychref13_Lens.pv_eq, pvL, List.map_cons, List.map_nil, List.map_append, rune1]; exact ⟨_, _, _, _, _, rfl⟩) | (simp only [lens_Prim.pv_eq, lens_Lens.pv_eq, diptychref13_Prim.pv_eq, diptychref13_Lens.pv_eq, pvL, List.map_cons, List.map_nil, List.map_append, rune1, h2, h38, h4, h6]; exact ⟨_, _, _, _, _, rfl⟩)
              | cons y_42 suf ih =>
                intro pre i_24 all_25 hsplit hidx hh nx g1 g4
                rw [diptychlaw13_LensRows_l1] at hh
                refine hI _ ?_
                obtain ⟨hl1a, hl1b, hl1d, hl1w, h38⟩ := walk_cons (f := lens_Lens.pv) hsplit hidx hlen1
                refine awp_seq ?_
                refine awp_first fun K kk hK => ?_
                simp only [go_sem]
                refine hK _ _ fun nx => ?_; clear hK K; try clear kk
                refine awp_true (by first | exact congrArg PV.bool h38 | rfl) ?_
                refine awp_skip ?_; refine nmx ?_
                refine awp_seq ?_
                refine awp_block ?_
                obtain ⟨flat_43, h39, hh⟩ := bind_ex hh
                refine awp_first fun K kk hK => ?_
                simp only [go_sem, hl1a, hl1b, hl1d, hl1w]
                refine step_call2 (lens_Flat_ok _ _ h39).list (by (try simp only [go_sem, hl1a, hl1b, hl1d, hl1w]) <;> exact wkl) (by rfl) (by rfl) ?_
                simp only [go_sem, hl1a, hl1b, hl1d, hl1w]
                refine hK _ _ fun nx => ?_; clear hK K; try clear kk
                refine awp_first fun K kk hK => ?_
                simp only [go_sem, hl1a, hl1b, hl1d, hl1w]
                refine hK _ _ fun nx => ?_; clear hK K; try clear kk
                obtain ⟨e4, f4, hh⟩ := bind_ex hh
                obtain ⟨hlen4, f4⟩ := chk_some f4
                refine awp_fragE (CutTo (fun s => ∃ all_57, all_57 = e4 ∧ ∃ (k_55 : Int) (v_56 : Bool) (nx : Nat) (g1 : Nat) (g4 : Nat), s = ⟨[(1, .box 1 g1 0), (4, .row 4 g4 all_57.length), (5, .int .i64 i_24), (6, .list 6 (flat_43.map lens_Prim.pv)), (7, .int .i64 k_55), (51, .bool v_56)], [(1, g1, .var 53 [.int .u8 l_1.Prim.Op, .str l_1.Prim.Kind, .str l_1.Prim.Name, .str l_1.Prim.New, .list 1 (l_1.Prim.Values.map PV.str), .list 1 (l_1.Prim.To.map PV.str), .bool l_1.Turned, .list 8 (l_1.Kids.map lens_Lens.pv)]), (4, g4, .row false 6 (all_57.map diptychref13_Prim.pv))], nx⟩))
                  (fun i s => False)
                  (fun s => False) ?_ ?_ ?_ ?_
                · refine awp_block ?_
                  refine awp_loopJ fun I hI => ?_
                  have key : ∀ (suf pre : List lens_Prim) (k_47 : Int) (all_48 : (List diptychref13_Prim)), flat_43 = pre ++ suf → k_47 = (pre.length : Int) → diptychlaw13_LensRows_l4 suf k_47 all_48 = some e4 → ∀ (nx : Nat) (g1 : Nat) (g4 : Nat), I ⟨[(1, .box 1 g1 0), (4, .row 4 g4 all_48.length), (5, .int .i64 i_24), (6, .list 6 (flat_43.map lens_Prim.pv)), (7, .int .i64 k_47)], [(1, g1, .var 53 [.int .u8 l_1.Prim.Op, .str l_1.Prim.Kind, .str l_1.Prim.Name, .str l_1.Prim.New, .list 1 (l_1.Prim.Values.map PV.str), .list 1 (l_1.Prim.To.map PV.str), .bool l_1.Turned, .list 8 (l_1.Kids.map lens_Lens.pv)]), (4, g4, .row false 6 (all_48.map diptychref13_Prim.pv))], nx⟩ := by
                    intro suf
                    induction suf with
                    | nil =>
                      intro pre k_47 all_48 hsplit hidx hh nx g1 g4
                      rw [diptychlaw13_LensRows_l4] at hh
                      refine hI _ ?_
                      have h48 := walk_nil hsplit hidx
                      refine awp_seq ?_
                      refine awp_first fun K kk hK => ?_
                      simp only [go_sem, hl1a, hl1b, hl1d, hl1w]
                      refine hK _ _ fun nx => ?_; clear hK K; try clear kk
                      refine awp_false (by first | exact congrArg PV.bool h48 | rfl) ?_
                      refine awp_exit ?_; refine nmx ?_
                      refine fragN ?_
                      refine cut_id ?_
                      refine ⟨_, (Option.some.inj hh), ?_⟩
                      first | exact ⟨_, _, _, _, _, rfl⟩ | (simp only [lens_Prim.pv_eq, lens_Lens.pv_eq, diptychref13_Prim.pv_eq, diptychref13_Lens.pv_eq, pvL, List.map_cons, List.map_nil, List.map_append, rune1]; exact ⟨_, _, _, _, _, rfl⟩) | (simp only [lens_Prim.pv_eq, lens_Lens.pv_eq, diptychref13_Prim.pv_eq, diptychref13_Lens.pv_eq, pvL, List.map_cons, List.map_nil, List.map_append, rune1, h2, h38, h4, h48, h6]; exact ⟨_, _, _, _, _, rfl⟩)
                    | cons y_52 suf ih =>
                      intro pre k_47 all_48 hsplit hidx hh nx g1 g4
                      rw [diptychlaw13_LensRows_l4] at hh
                      refine hI _ ?_
                      obtain ⟨hl4a, hl4b, hl4d, hl4w, h48⟩ := walk_cons (f := lens_Prim.pv) hsplit hidx hlen4
                      refine awp_seq ?_
                      refine awp_first fun K kk hK => ?_
                      simp only [go_sem, hl1a, hl1b, hl1d, hl1w]
                      refine hK _ _ fun nx => ?_; clear hK K; try clear kk
                      refine awp_true (by first | exact congrArg PV.bool h48 | rfl) ?_
                      refine awp_skip ?_; refine nmx ?_
                      refine awp_seq ?_
                      refine awp_block ?_
                      obtain ⟨asprim_53, h49, hh⟩ := bind_ex hh
                      obtain ⟨l_54, h50, hh⟩ := bind_ex hh
                      obtain ⟨h50a, h50c⟩ := app_some h50
                      have h50d := app_map (f := diptychref13_Prim.pv) h50c
                      have h50e := app_len h50c
                      try simp only [List.length_cons, List.length_nil, Nat.zero_add, Nat.reduceAdd] at h50a h50e
                      try simp only [h50e] at h50a
                      try simp only [List.map_cons, List.map_nil, List.nil_append, List.append_nil, List.cons_append, List.singleton_append, rune1, lens_Prim.pv_eq, lens_Lens.pv_eq, diptychref13_Prim.pv_eq, diptychref13_Lens.pv_eq, pvL] at h50d
                      refine awp_region fun K kk hK => ?_
                      simp only [go_sem, h50a, h50d, h50e, hl1a, hl1b, hl1d, hl1w, hl4a, hl4b, hl4d, hl4w]
                      (repeat refine sd ?_)
                      refine step_call2 (diptychlaw13_asPrim_ok _ _ h49) (by (try simp only [go_sem, h50a, h50d, h50e, hl1a, hl1b, hl1d, hl1w, hl4a, hl4b, hl4d, hl4w]) <;> exact wkl) (by rfl) (by rfl) ?_
                      simp only [go_sem, h50a, h50d, h50e, hl1a, hl1b, hl1d, hl1w, hl4a, hl4b, hl4d, hl4w]
                      (repeat refine sd ?_)
                      refine hK _ _ fun nx => ?_; clear hK K; try clear kk
                      refine nmx ?_
                      refine awp_region fun K kk hK => ?_
                      simp only [go_sem, hl1a, hl1b, hl1d, hl1w, hl4a, hl4b, hl4d, hl4w]
                      refine hK _ _ fun nx => ?_; clear hK K; try clear kk
                      refine nmx ?_
                      have ih' := ih (pre ++ [y_52]) (k_47 + 1) _ (by rw [hsplit]; simp) (by simp [hidx]) hh nx
                      refine cut_id ?_
                      first | exact ih' _ _ | (simp only [lens_Prim.pv_eq, lens_Lens.pv_eq, diptychref13_Prim.pv_eq, diptychref13_Lens.pv_eq, pvL, List.map_cons, List.map_nil, List.map_append, rune1, h50e] at ih' ⊢; exact ih' _ _) | (simp only [lens_Prim.pv_eq, lens_Lens.pv_eq, diptychref13_Prim.pv_eq, diptychref13_Lens.pv_eq, pvL, List.map_cons, List.map_nil, List.map_append, rune1, h50e, h2, h38, h4, h48, h6] at ih' ⊢; exact ih' _ _)
                  exact key flat_43 [] _ _ rfl rfl f4 _ _ _
                · rintro s ⟨t, hless, all_57, rfl, k_55, v_56, nx, g1, g4, rfl⟩
                  try dsimp only at hh
                  refine nmy ?_
                  first | (refine cut_less hless ?_; try refine cut_awp ?_) | refine frag_less hless ?_ | refine body_less hless ?_
                  refine awp_region fun K kk hK => ?_
                  simp only [go_sem, hl1a, hl1b, hl1d, hl1w]
                  refine hK _ _ fun nx => ?_; clear hK K; try clear kk
                  refine nmx ?_
                  have ih' := ih (pre ++ [y_42]) (i_24 + 1) _ (by rw [hsplit]; simp) (by simp [hidx]) hh nx
                  refine cut_id ?_
                  first | exact ih' _ _ | (simp only [lens_Prim.pv_eq, lens_Lens.pv_eq, diptychref13_Prim.pv_eq, diptychref13_Lens.pv_eq, pvL, List.map_cons, List.map_nil, List.map_append, rune1] at ih' ⊢; exact ih' _ _) | (simp only [lens_Prim.pv_eq, lens_Lens.pv_eq, diptychref13_Prim.pv_eq, diptychref13_Lens.pv_eq, pvL, List.map_cons, List.map_nil, List.map_append, rune1, h2, h38, h4, h6] at ih' ⊢; exact ih' _ _)
                · intro i s h; exact h.elim
                · intro s h; exact h.elim
            exact key l_1.Kids [] _ _ rfl rfl f1 _ _ _
          · rintro s ⟨t, hless, all_60, rfl, i_58, v_59, nx, g1, g4, rfl⟩
            try dsimp only at hh
            refine nmy ?_
            first | (refine cut_less hless ?_; try refine cut_awp ?_) | refine frag_less hless ?_ | refine body_less hless ?_
            obtain ⟨flat_61, h51, hh⟩ := bind_ex hh
            refine awp_first fun K kk hK => ?_
            simp only [go_sem]
            refine step_call2 (lens_Flat_ok _ _ h51).list (by (try simp only [go_sem]) <;> exact wkl) (by rfl) (by rfl) ?_
            simp only [go_sem]
            refine hK _ _ fun nx => ?_; clear hK K; try clear kk
            refine awp_seq ?_
            refine awp_first fun K kk hK => ?_
            simp only [go_sem]
            refine hK _ _ fun nx => ?_; clear hK K; try clear kk
            by_cases h52 : ((flat_61.length : Int) != (all_60.length : Int)) = true
            · rw [if_pos h52] at hh
              refine awp_true (by first | exact congrArg PV.bool h52 | rfl) ?_
              refine awp_first fun K kk hK => ?_
              simp only [go_sem]
              refine hK _ _ fun nx => ?_; clear hK K; try clear kk
              refine awp_ret ?_; refine nmx ?_
              obtain hR := Option.some.inj hh
              subst hR
              exact ret_p2
            · rw [if_neg h52] at hh
              replace h52 := Bool.eq_false_iff.mpr h52
              refine awp_false (by first | exact congrArg PV.bool h52 | rfl) ?_
              refine awp_skip ?_; refine nmx ?_
              refine awp_seq ?_
              refine awp_first fun K kk hK => ?_
              simp only [go_sem]
              refine hK _ _ fun nx => ?_; clear hK K; try clear kk
              obtain ⟨e5, f5, hh⟩ := bind_ex hh
              obtain ⟨hlen5, f5⟩ := chk_some f5
              refine awp_fragE (CutTo (fun s => .inr () = e5 ∧ ∃ (i_82 : Int) (v_83 : Bool) (nx : Nat) (g1 : Nat) (g4 : Nat), s = ⟨[(1, .box 1 g1 0), (4, .row 4 g4 all_60.length), (8, .list 6 (flat_61.map lens_Prim.pv)), (9, .int .i64 i_82), (72, .bool v_83)], [(1, g1, .var 53 [.int .u8 l_1.Prim.Op, .str l_1.Prim.Kind, .str l_1.Prim.Name, .str l_1.Prim.New, .list 1 (l_1.Prim.Values.map PV.str), .list 1 (l_1.Prim.To.map PV.str), .bool l_1.Turned, .list 8 (l_1.Kids.map lens_Lens.pv)]), (4, g4, .row false 6 (all_60.map diptychref13_Prim.pv))], nx⟩))
                (fun i s => False)
                (fun s => ∃ res_81, .inl res_81 = e5 ∧ bodyR Tryd.prog [.tmp 2] (.bool res_81) [] .ret s) ?_ ?_ ?_ ?_
              · refine awp_block ?_
                refine awp_loopJ fun I hI => ?_
                have key : ∀ (suf pre : List lens_Prim) (i_68 : Int), flat_61 = pre ++ suf → i_68 = (pre.length : Int) → diptychlaw13_LensRows_l5 l_1 all_60 suf i_68 = some e5 → ∀ (nx : Nat) (g1 : Nat) (g4 : Nat), I ⟨[(1, .box 1 g1 0), (4, .row 4 g4 all_60.length), (8, .list 6 (flat_61.map lens_Prim.pv)), (9, .int .i64 i_68)], [(1, g1, .var 53 [.int .u8 l_1.Prim.Op, .str l_1.Prim.Kind, .str l_1.Prim.Name, .str l_1.Prim.New, .list 1 (l_1.Prim.Values.map PV.str), .list 1 (l_1.Prim.To.map PV.str), .bool l_1.Turned, .list 8 (l_1.Kids.map lens_Lens.pv)]), (4, g4, .row false 6 (all_60.map diptychref13_Prim.pv))], nx⟩ := by
                  intro suf
                  induction suf with
                  | nil =>
                    intro pre i_68 hsplit hidx hh nx g1 g4
                    rw [diptychlaw13_LensRows_l5] at hh
                    refine hI _ ?_
                    have h69 := walk_nil hsplit hidx
                    refine awp_seq ?_
                    refine awp_first fun K kk hK => ?_
                    simp only [go_sem]
                    refine hK _ _ fun nx => ?_; clear hK K; try clear kk
                    refine awp_false (by first | exact congrArg PV.bool h69 | rfl) ?_
                    refine awp_exit ?_; refine nmx ?_
                    refine fragN ?_
                    refine cut_id ?_
                    refine ⟨(Option.some.inj hh), ?_⟩
                    first | exact ⟨_, _, _, _, _, rfl⟩ | (simp only [lens_Prim.pv_eq, lens_Lens.pv_eq, diptychref13_Prim.pv_eq, diptychref13_Lens.pv_eq, pvL, List.map_cons, List.map_nil, List.map_append, rune1]; exact ⟨_, _, _, _, _, rfl⟩) | (simp only [lens_Prim.pv_eq, lens_Lens.pv_eq, diptychref13_Prim.pv_eq, diptychref13_Lens.pv_eq, pvL, List.map_cons, List.map_nil, List.map_append, rune1, h2, h4, h52, h6, h69]; exact ⟨_, _, _, _, _, rfl⟩)
                  | cons y_75 suf ih =>
                    intro pre i_68 hsplit hidx hh nx g1 g4
                    rw [diptychlaw13_LensRows_l5] at hh
                    refine hI _ ?_
                    obtain ⟨hl5a, hl5b, hl5d, hl5w, h69⟩ := walk_cons (f := lens_Prim.pv) hsplit hidx hlen5
                    refine awp_seq ?_
                    refine awp_first fun K kk hK => ?_
                    simp only [go_sem]
                    refine hK _ _ fun nx => ?_; clear hK K; try clear kk
                    refine awp_true (by first | exact congrArg PV.bool h69 | rfl) ?_
                    refine awp_skip ?_; refine nmx ?_
                    refine awp_seq ?_
                    refine awp_block ?_
                    obtain ⟨x_76, h70, hh⟩ := bind_ex hh
                    obtain ⟨h70a, h70b, h70c⟩ := rd_some h70
                    have h70d := rd_get (f := diptychref13_Prim.pv) h70c
                    have h70f := rd_more (f := diptychref13_Prim.pv) h70c
                    try simp only [Int.toNat_natCast, Int.reduceToNat] at h70d h70f
                    refine awp_first fun K kk hK => ?_
                    simp only [go_sem, h70a, h70b, h70d, h70f.1, h70f.2, hl5a, hl5b, hl5d, hl5w]
                    (repeat refine sd ?_)
                    refine hK _ _ fun nx => ?_; clear hK K; try clear kk
                    refine awp_seq ?_
                    obtain ⟨e8, f8, hh⟩ := bind_ex hh
                    refine awp_frag (fun s => ∃ want_79, want_79 = e8 ∧ ∃ (nx : Nat) (g1 : Nat) (g4 : Nat) (g10 : Nat), s = ⟨[(1, .box 1 g1 0), (4, .row 4 g4 all_60.length), (8, .list 6 (flat_61.map lens_Prim.pv)), (9, .int .i64 i_68), (10, .box 10 g10 0)], [(1, g1, .var 53 [.int .u8 l_1.Prim.Op, .str l_1.Prim.Kind, .str l_1.Prim.Name, .str l_1.Prim.New, .list 1 (l_1.Prim.Values.map PV.str), .list 1 (l_1.Prim.To.map PV.str), .bool l_1.Turned, .list 8 (l_1.Kids.map lens_Lens.pv)]), (4, g4, .row false 6 (all_60.map diptychref13_Prim.pv)), (10, g10, .var 55 [.int .u8 want_79.Op, .str want_79.Kind, .str want_79.Name, .str want_79.New, .list 1 (want_79.Values.map PV.str), .list 1 (want_79.To.map PV.str)])], nx⟩)
                      (fun i s => False)
                      (fun s => False) ?_ ?_ ?_ ?_
                    · have hh := f8
                      refine awp_first fun K kk hK => ?_
                      simp only [go_sem, hl5a, hl5b, hl5d, hl5w]
                      refine hK _ _ fun nx => ?_; clear hK K; try clear kk
                      by_cases h71 : (l_1.Turned) = true
                      · rw [if_pos h71] at hh
                        refine awp_true (by first | exact congrArg PV.bool h71 | rfl) ?_
                        obtain ⟨x_77, h72, hh⟩ := bind_ex hh
                        obtain ⟨h72a, h72b, h72c⟩ := rd_some h72
                        have h72d := rd_get (f := diptychref13_Prim.pv) h72c
                        have h72f := rd_more (f := diptychref13_Prim.pv) h72c
                        try simp only [Int.toNat_natCast, Int.reduceToNat] at h72d h72f
                        obtain ⟨turn_78, h73, hh⟩ := bind_ex hh
                        refine awp_region fun K kk hK => ?_
                        simp only [go_sem, h72a, h72b, h72d, h72f.1, h72f.2, hl5a, hl5b, hl5d, hl5w]
                        (repeat refine sd ?_)
                        refine step_call2 (diptychref13_Turn_ok _ _ h73) (by (try simp only [go_sem, h72a, h72b, h72d, h72f.1, h72f.2, hl5a, hl5b, hl5d, hl5w]) <;> exact wkl) (by rfl) (by rfl) ?_
                        simp only [go_sem, h72a, h72b, h72d, h72f.1, h72f.2, hl5a, hl5b, hl5d, hl5w]
                        (repeat refine sd ?_)
                        refine hK _ _ fun nx => ?_; clear hK K; try clear kk
                        refine nmx ?_
                        refine fragN ?_
                        refine cut_id ?_
                        refine ⟨_, (Option.some.inj hh), ?_⟩
                        first | exact ⟨_, _, _, _, rfl⟩ | (simp only [lens_Prim.pv_eq, lens_Lens.pv_eq, diptychref13_Prim.pv_eq, diptychref13_Lens.pv_eq, pvL, List.map_cons, List.map_nil, List.map_append, rune1]; exact ⟨_, _, _, _, rfl⟩) | (simp only [lens_Prim.pv_eq, lens_Lens.pv_eq, diptychref13_Prim.pv_eq, diptychref13_Lens.pv_eq, pvL, List.map_cons, List.map_nil, List.map_append, rune1, h2, h4, h52, h6, h69, h71]; exact ⟨_, _, _, _, rfl⟩)
                      · rw [if_neg h71] at hh
                        replace h71 := Bool.eq_false_iff.mpr h71
                        refine awp_false (by first | exact congrArg PV.bool h71 | rfl) ?_
                        refine awp_skip ?_; refine nmx ?_
                        refine fragN ?_
                        refine cut_to (less_cut _ [1, 4, 8, 9, 10] [1, 4, 10]) ?_
                        refine ⟨_, (Option.some.inj hh), ?_⟩
                        first | exact ⟨_, _, _, _, rfl⟩ | (simp only [lens_Prim.pv_eq, lens_Lens.pv_eq, diptychref13_Prim.pv_eq, diptychref13_Lens.pv_eq, pvL, List.map_cons, List.map_nil, List.map_append, rune1]; exact ⟨_, _, _, _, rfl⟩) | (simp only [lens_Prim.pv_eq, lens_Lens.pv_eq, diptychref13_Prim.pv_eq, diptychref13_Lens.pv_eq, pvL, List.map_cons, List.map_nil, List.map_append, rune1, h2, h4, h52, h6, h69, h71]; exact ⟨_, _, _, _, rfl⟩)
                    · rintro s ⟨want_79, rfl, nx, g1, g4, g10, rfl⟩
                      try dsimp only at hh
                      obtain ⟨samepr_80, h74, hh⟩ := bind_ex hh
                      refine awp_first fun K kk hK => ?_
                      simp only [go_sem, hl5a, hl5b, hl5d, hl5w]
                      refine step_call2 (diptychlaw13_samePrim_ok _ _ _ h74) (by (try simp only [go_sem, hl5a, hl5b, hl5d, hl5w]) <;> exact wkl) (by rfl) (by rfl) ?_
                      simp only [go_sem, hl5a, hl5b, hl5d, hl5w]
                      refine hK _ _ fun nx => ?_; clear hK K; try clear kk
                      by_cases h75 : (!samepr_80) = true
                      · rw [if_pos h75] at hh
                        refine awp_true (by first | exact congrArg PV.bool h75 | rfl) ?_
                        refine awp_first fun K kk hK => ?_
                        simp only [go_sem, hl5a, hl5b, hl5d, hl5w]
                        refine hK _ _ fun nx => ?_; clear hK K; try clear kk
                        refine awp_ret ?_; refine nmx ?_
                        refine fragR ⟨_, (Option.some.inj hh), ?_⟩
                        exact ret_p2
                      · rw [if_neg h75] at hh
                        replace h75 := Bool.eq_false_iff.mpr h75
                        refine awp_false (by first | exact congrArg PV.bool h75 | rfl) ?_
                        refine awp_skip ?_; refine nmx ?_
                        refine awp_region fun K kk hK => ?_
                        simp only [go_sem, hl5a, hl5b, hl5d, hl5w]
                        refine hK _ _ fun nx => ?_; clear hK K; try clear kk
                        refine nmx ?_
                        have ih' := ih (pre ++ [y_75]) (i_68 + 1) (by rw [hsplit]; simp) (by simp [hidx]) hh nx
                        refine cut_id ?_
                        first | exact ih' _ _ | (simp only [lens_Prim.pv_eq, lens_Lens.pv_eq, diptychref13_Prim.pv_eq, diptychref13_Lens.pv_eq, pvL, List.map_cons, List.map_nil, List.map_append, rune1] at ih' ⊢; exact ih' _ _) | (simp only [lens_Prim.pv_eq, lens_Lens.pv_eq, diptychref13_Prim.pv_eq, diptychref13_Lens.pv_eq, pvL, List.map_cons, List.map_nil, List.map_append, rune1, h2, h4, h52, h6, h69, h75] at ih' ⊢; exact ih' _ _)
                    · intro i s h; exact h.elim
                    · intro s h; exact h.elim
                exact key flat_61 [] _ rfl rfl f5 _ _ _
              · rintro s ⟨t, hless, rfl, i_82, v_83, nx, g1, g4, rfl⟩
                try dsimp only at hh
                refine nmy ?_
                first | (refine cut_less hless ?_; try refine cut_awp ?_) | refine frag_less hless ?_ | refine body_less hless ?_
                refine awp_first fun K kk hK => ?_
                simp only [go_sem]
                refine hK _ _ fun nx => ?_; clear hK K; try clear kk
                refine awp_ret ?_; refine nmx ?_
                obtain hR := Option.some.inj hh
                subst hR
                exact ret_p2
              · intro i s h; exact h.elim
              · rintro s ⟨res_81, rfl, hb⟩
                try dsimp only at hh
                obtain hR := Option.some.inj hh
                subst hR
                refine nmx ?_
                exact hb
          · intro i s h; exact h.elim
          · intro s h; exact h.elim
        · intro i s h; exact h.elim
        · intro s h; exact h.elim
theorem slices_Clone_lens_Lens_ok (l : (List lens_Lens)) (R : (List lens_Lens)) (hh : slices_Clone_lens_Lens l = some R) : PC Tryd.prog 80 [.list 8 (l.map lens_Lens.pv)] (.own 8 (R.map lens_Lens.pv)) := by
  rw [slices_Clone_lens_Lens] at hh
  obtain ⟨ha, hb⟩ := app_some hh
  rw [List.nil_append] at hb
  subst hb
  try simp only [List.length_nil, Nat.zero_add] at ha
  refine start_slices_Clone_lens_Lens rfl ?_
  refine awp_first fun K kk hK => ?_
  simp only [go_sem]
  refine hK _ _ fun nx => ?_; clear hK K; try clear kk
  refine awp_first fun K kk hK => ?_
  simp only [go_sem]
  refine ⟨fun hnil => hK _ _ fun nx => ?_, hK _ _ fun nx => ?_⟩ <;> (clear hK K; try clear kk)
  · have hl : l = [] := by simpa using hnil
    subst hl
    first | refine awp_true rfl ?_ | (refine awp_seq ?_; refine awp_true rfl ?_)
    refine awp_first fun K kk hK => ?_
    simp only [go_sem]
    refine hK _ _ fun nx => ?_; clear hK K; try clear kk
    refine awp_ret ?_; refine nmx ?_
    exact ret_own_nil rfl
  · first | refine awp_false rfl ?_ | (refine awp_seq ?_; refine awp_false rfl ?_)
    refine awp_skip ?_; refine nmx ?_
    refine awp_first fun K kk hK => ?_
    simp only [go_sem, ha]
    refine hK _ _ fun nx => ?_; clear hK K; try clear kk
    refine awp_ret ?_; refine nmx ?_
    exact ret_own (by rfl) (by rfl) (by rfl) (by simp) (by rfl)
theorem lens_Invert_ok (l_1 : lens_Lens) (R : lens_Lens) (hh : lens_Invert l_1 = some R) : PC Tryd.prog 41 [.agg [.int .u8 l_1.Prim.Op, .str l_1.Prim.Kind, .str l_1.Prim.Name, .str l_1.Prim.New, .list 1 (l_1.Prim.Values.map PV.str), .list 1 (l_1.Prim.To.map PV.str), .bool l_1.Turned, .list 8 (l_1.Kids.map lens_Lens.pv)]] (.agg [.int .u8 R.Prim.Op, .str R.Prim.Kind, .str R.Prim.Name, .str R.Prim.New, .list 1 (R.Prim.Values.map PV.str), .list 1 (R.Prim.To.map PV.str), .bool R.Turned, .list 8 (R.Kids.map lens_Lens.pv)]) := by
  rw [lens_Invert] at hh
  refine start_lens_Invert rfl ?_
  refine awp_first fun K kk hK => ?_
  simp only [go_sem]
  refine hK _ _ fun nx => ?_; clear hK K; try clear kk
  refine awp_seq ?_
  refine awp_block ?_
  refine awp_first fun K kk hK => ?_
  simp only [go_sem]
  refine hK _ _ fun nx => ?_; clear hK K; try clear kk
  by_cases h1 : (l_1.Prim.Op != (0 : Int)) = true
  · rw [if_pos h1] at hh
    refine awp_true (by first | exact congrArg PV.bool h1 | rfl) ?_
    refine awp_first fun K kk hK => ?_
    simp only [go_sem]
    refine hK _ _ fun nx => ?_; clear hK K; try clear kk
    refine awp_ret ?_; refine nmx ?_
    obtain hR := Option.some.inj hh
    subst hR
    exact ret_p2
  · rw [if_neg h1] at hh
    replace h1 := Bool.eq_false_iff.mpr h1
    refine awp_false (by first | exact congrArg PV.bool h1 | rfl) ?_
    by_cases h2 : (l_1.Turned) = true
    · rw [if_pos h2] at hh
      refine awp_first fun K kk hK => ?_
      simp only [go_sem, h2, h2]
      (repeat refine sd ?_)
      refine hK _ _ fun nx => ?_; clear hK K; try clear kk
      by_cases h3 : ((l_1.Kids.length : Int) == (1 : Int)) = true
      · rw [if_pos h3] at hh
        refine awp_true (by first | exact congrArg PV.bool h3 | rfl) ?_
        obtain ⟨x_2, h4, hh⟩ := bind_ex hh
        obtain ⟨h4a, h4b, h4c⟩ := rd_some h4
        have h4d := rd_get (f := lens_Lens.pv) h4c
        have h4f := rd_more (f := lens_Lens.pv) h4c
        try simp only [Int.toNat_natCast, Int.reduceToNat] at h4d h4f
        refine awp_first fun K kk hK => ?_
        simp only [go_sem, h4a, h4b, h4d, h4f.1, h4f.2]
        (repeat refine sd ?_)
        refine hK _ _ fun nx => ?_; clear hK K; try clear kk
        refine awp_ret ?_; refine nmx ?_
        obtain hR := Option.some.inj hh
        subst hR
        exact ret_p2
      · rw [if_neg h3] at hh
        replace h3 := Bool.eq_false_iff.mpr h3
        refine awp_false (by first | exact congrArg PV.bool h3 | rfl) ?_
        refine awp_skip ?_; refine nmx ?_
        obtain ⟨lens_3, h5, hh⟩ := bind_ex hh
        refine awp_first fun K kk hK => ?_
        simp only [go_sem]
        refine step_call2 (slices_Clone_lens_Lens_ok _ _ h5).list (by (try simp only [go_sem]) <;> exact wkl) (by rfl) (by rfl) ?_
        simp only [go_sem]
        refine hK _ _ fun nx => ?_; clear hK K; try clear kk
        refine awp_ret ?_; refine nmx ?_
        obtain hR := Option.some.inj hh
        subst hR
        exact ret_p2
    · rw [if_neg h2] at hh
      replace h2 := Bool.eq_false_iff.mpr h2
      refine awp_first fun K kk hK => ?_
      simp only [go_sem, h2, h2]
      (repeat refine sd ?_)
      refine hK _ _ fun nx => ?_; clear hK K; try clear kk
      refine awp_false rfl ?_
      refine awp_skip ?_; refine nmx ?_
      obtain ⟨lens_4, h6, hh⟩ := bind_ex hh
      refine awp_first fun K kk hK => ?_
      simp only [go_sem]
      refine step_call2 (slices_Clone_lens_Lens_ok _ _ h6).list (by (try simp only [go_sem]) <;> exact wkl) (by rfl) (by rfl) ?_
      simp only [go_sem]
      refine hK _ _ fun nx => ?_; clear hK K; try clear kk
      refine awp_ret ?_; refine nmx ?_
      obtain hR := Option.some.inj hh
      subst hR
      exact ret_p2
theorem diptychlaw13_LensTurns_ok (l_1 : lens_Lens) (R : Bool) (hh : diptychlaw13_LensTurns l_1 = some R) : PC Tryd.prog 9 [.agg [.int .u8 l_1.Prim.Op, .str l_1.Prim.Kind, .str l_1.Prim.Name, .str l_1.Prim.New, .list 1 (l_1.Prim.Values.map PV.str), .list 1 (l_1.Prim.To.map PV.str), .bool l_1.Turned, .list 8 (l_1.Kids.map lens_Lens.pv)]] (.bool R) := by
  rw [diptychlaw13_LensTurns] at hh
  refine start_diptychlaw13_LensTurns rfl ?_
  refine awp_first fun K kk hK => ?_
  simp only [go_sem]
  refine hK _ _ fun nx => ?_; clear hK K; try clear kk
  obtain ⟨shown_2, h1, hh⟩ := bind_ex hh
  refine awp_first fun K kk hK => ?_
  simp only [go_sem]
  refine step_call2 (diptychlaw13_shown_ok _ h1) (by (try simp only [go_sem]) <;> exact wkl) (by rfl) (by rfl) ?_
  simp only [go_sem]
  refine hK _ _ fun nx => ?_; clear hK K; try clear kk
  refine awp_seq ?_
  by_cases h2 : (!shown_2) = true
  · rw [if_pos h2] at hh
    refine awp_first fun K kk hK => ?_
    simp only [go_sem, h2, h2]
    (repeat refine sd ?_)
    refine hK _ _ fun nx => ?_; clear hK K; try clear kk
    refine awp_true rfl ?_
    refine awp_first fun K kk hK => ?_
    simp only [go_sem]
    refine hK _ _ fun nx => ?_; clear hK K; try clear kk
    refine awp_ret ?_; refine nmx ?_
    obtain hR := Option.some.inj hh
    subst hR
    exact ret_p2
  · rw [if_neg h2] at hh
    replace h2 := Bool.eq_false_iff.mpr h2
    obtain ⟨light_3, h3, hh⟩ := bind_ex hh
    by_cases h4 : (decide (light_3 < (0 : Int))) = true
    · rw [if_pos h4] at hh
      refine awp_first fun K kk hK => ?_
      simp only [go_sem, h2, h2, h4, of_decide_eq_true h4, h4, of_decide_eq_true h4]
      (repeat refine sd ?_)
      refine step_call2 (diptychlaw13_light_ok _ _ _ h3) (by (try simp only [go_sem, h2, h2, h4, of_decide_eq_true h4, h4, of_decide_eq_true h4]) <;> exact wkl) (by rfl) (by rfl) ?_
      simp only [go_sem, h2, h2, h4, of_decide_eq_true h4, h4, of_decide_eq_true h4]
      (repeat refine sd ?_)
      refine hK _ _ fun nx => ?_; clear hK K; try clear kk
      refine awp_true rfl ?_
      refine awp_first fun K kk hK => ?_
      simp only [go_sem]
      refine hK _ _ fun nx => ?_; clear hK K; try clear kk
      refine awp_ret ?_; refine nmx ?_
      obtain hR := Option.some.inj hh
      subst hR
      exact ret_p2
    · rw [if_neg h4] at hh
      replace h4 := Bool.eq_false_iff.mpr h4
      obtain ⟨right_4, h5, hh⟩ := bind_ex hh
      refine awp_first fun K kk hK => ?_
      simp only [go_sem, h2, h2, h4, of_decide_eq_false h4, h4, of_decide_eq_false h4]
      (repeat refine sd ?_)
      refine step_call2 (diptychlaw13_light_ok _ _ _ h3) (by (try simp only [go_sem, h2, h2, h4, of_decide_eq_false h4, h4, of_decide_eq_false h4]) <;> exact wkl) (by rfl) (by rfl) ?_
      simp only [go_sem, h2, h2, h4, of_decide_eq_false h4, h4, of_decide_eq_false h4]
      (repeat refine sd ?_)
      refine step_call2 (lens_Right_ok _ _ h5) (by (try simp only [go_sem, h2, h2, h4, of_decide_eq_false h4, h4, of_decide_eq_false h4]) <;> exact wkl) (by rfl) (by rfl) ?_
      simp only [go_sem, h2, h2, h4, of_decide_eq_false h4, h4, of_decide_eq_false h4]
      (repeat refine sd ?_)
      refine hK _ _ fun nx => ?_; clear hK K; try clear kk
      by_cases h6 : (!right_4) = true
      · rw [if_pos h6] at hh
        refine awp_true (by first | exact congrArg PV.bool h6 | rfl) ?_
        refine awp_first fun K kk hK => ?_
        simp only [go_sem]
        refine hK _ _ fun nx => ?_; clear hK K; try clear kk
        refine awp_ret ?_; refine nmx ?_
        obtain hR := Option.some.inj hh
        subst hR
        exact ret_p2
      · rw [if_neg h6] at hh
        replace h6 := Bool.eq_false_iff.mpr h6
        refine awp_false (by first | exact congrArg PV.bool h6 | rfl) ?_
        refine awp_skip ?_; refine nmx ?_
        obtain ⟨flat_5, h7, hh⟩ := bind_ex hh
        refine awp_first fun K kk hK => ?_
        simp only [go_sem]
        refine step_call2 (lens_Flat_ok _ _ h7).list (by (try simp only [go_sem]) <;> exact wkl) (by rfl) (by rfl) ?_
        simp only [go_sem]
        refine hK _ _ fun nx => ?_; clear hK K; try clear kk
        obtain ⟨invert_6, h8, hh⟩ := bind_ex hh
        obtain ⟨flat_7, h9, hh⟩ := bind_ex hh
        refine awp_first fun K kk hK => ?_
        simp only [go_sem]
        refine step_call2 (lens_Invert_ok _ _ h8) (by (try simp only [go_sem]) <;> exact wkl) (by rfl) (by rfl) ?_
        simp only [go_sem]
        refine step_call2 (lens_Flat_ok _ _ h9).list (by (try simp only [go_sem]) <;> exact wkl) (by rfl) (by rfl) ?_
        simp only [go_sem]
        refine hK _ _ fun nx => ?_; clear hK K; try clear kk
        obtain ⟨invert_8, h10, hh⟩ := bind_ex hh
        obtain ⟨invert_9, h11, hh⟩ := bind_ex hh
        obtain ⟨flat_10, h12, hh⟩ := bind_ex hh
        refine awp_first fun K kk hK => ?_
        simp only [go_sem]
        refine step_call2 (lens_Invert_ok _ _ h10) (by (try simp only [go_sem]) <;> exact wkl) (by rfl) (by rfl) ?_
        simp only [go_sem]
        refine step_call2 (lens_Invert_ok _ _ h11) (by (try simp only [go_sem]) <;> exact wkl) (by rfl) (by rfl) ?_
        simp only [go_sem]
        refine step_call2 (lens_Flat_ok _ _ h12).list (by (try simp only [go_sem]) <;> exact wkl) (by rfl) (by rfl) ?_
        simp only [go_sem]
        refine hK _ _ fun nx => ?_; clear hK K; try clear kk
        refine awp_seq ?_
        by_cases h13 : ((flat_5.length : Int) != (flat_7.length : Int)) = true
        · rw [if_pos h13] at hh
          refine awp_first fun K kk hK => ?_
          simp only [go_sem, h13, h13]
          (repeat refine sd ?_)
          refine hK _ _ fun nx => ?_; clear hK K; try clear kk
          refine awp_true rfl ?_
          refine awp_first fun K kk hK => ?_
          simp only [go_sem]
          refine hK _ _ fun nx => ?_; clear hK K; try clear kk
          refine awp_ret ?_; refine nmx ?_
          obtain hR := Option.some.inj hh
          subst hR
          exact ret_p2
        · rw [if_neg h13] at hh
          replace h13 := Bool.eq_false_iff.mpr h13
          refine awp_first fun K kk hK => ?_
          simp only [go_sem, h13, h13]
          (repeat refine sd ?_)
          refine hK _ _ fun nx => ?_; clear hK K; try clear kk
          by_cases h14 : ((flat_5.length : Int) != (flat_10.length : Int)) = true
          · rw [if_pos h14] at hh
            refine awp_true (by first | exact congrArg PV.bool h14 | rfl) ?_
            refine awp_first fun K kk hK => ?_
            simp only [go_sem]
            refine hK _ _ fun nx => ?_; clear hK K; try clear kk
            refine awp_ret ?_; refine nmx ?_
            obtain hR := Option.some.inj hh
            subst hR
            exact ret_p2
          · rw [if_neg h14] at hh
            replace h14 := Bool.eq_false_iff.mpr h14
            refine awp_false (by first | exact congrArg PV.bool h14 | rfl) ?_
            refine awp_skip ?_; refine nmx ?_
            refine awp_seq ?_
            refine awp_first fun K kk hK => ?_
            simp only [go_sem]
            refine hK _ _ fun nx => ?_; clear hK K; try clear kk
            obtain ⟨e0, f0, hh⟩ := bind_ex hh
            obtain ⟨hlen0, f0⟩ := chk_some f0
            refine awp_fragE (CutTo (fun s => .inr () = e0 ∧ ∃ (i_49 : Int) (v_50 : Bool) (nx : Nat), s = ⟨[(4, .list 6 (flat_5.map lens_Prim.pv)), (5, .list 6 (flat_7.map lens_Prim.pv)), (6, .list 6 (flat_10.map lens_Prim.pv)), (7, .int .i64 i_49), (46, .bool v_50)], [], nx⟩))
              (fun i s => False)
              (fun s => ∃ res_48, .inl res_48 = e0 ∧ bodyR Tryd.prog [.tmp 2] (.bool res_48) [] .ret s) ?_ ?_ ?_ ?_
            · refine awp_block ?_
              refine awp_loopJ fun I hI => ?_
              have key : ∀ (suf pre : List lens_Prim) (i_23 : Int), flat_5 = pre ++ suf → i_23 = (pre.length : Int) → diptychlaw13_LensTurns_l0 flat_5 flat_7 flat_10 suf i_23 = some e0 → ∀ (nx : Nat), I ⟨[(4, .list 6 (flat_5.map lens_Prim.pv)), (5, .list 6 (flat_7.map lens_Prim.pv)), (6, .list 6 (flat_10.map lens_Prim.pv)), (7, .int .i64 i_23)], [], nx⟩ := by
                intro suf
                induction suf with
                | nil =>
                  intro pre i_23 hsplit hidx hh nx
                  rw [diptychlaw13_LensTurns_l0] at hh
                  refine hI _ ?_
                  have h47 := walk_nil hsplit hidx
                  refine awp_seq ?_
                  refine awp_first fun K kk hK => ?_
                  simp only [go_sem]
                  refine hK _ _ fun nx => ?_; clear hK K; try clear kk
                  refine awp_false (by first | exact congrArg PV.bool h47 | rfl) ?_
                  refine awp_exit ?_; refine nmx ?_
                  refine fragN ?_
                  refine cut_id ?_
                  refine ⟨(Option.some.inj hh), ?_⟩
                  first | exact ⟨_, _, _, rfl⟩ | (simp only [lens_Prim.pv_eq, lens_Lens.pv_eq, diptychref13_Prim.pv_eq, diptychref13_Lens.pv_eq, pvL, List.map_cons, List.map_nil, List.map_append, rune1]; exact ⟨_, _, _, rfl⟩) | (simp only [lens_Prim.pv_eq, lens_Lens.pv_eq, diptychref13_Prim.pv_eq, diptychref13_Lens.pv_eq, pvL, List.map_cons, List.map_nil, List.map_append, rune1, h13, h14, h2, h4, h47, h6]; exact ⟨_, _, _, rfl⟩)
                | cons y_36 suf ih =>
                  intro pre i_23 hsplit hidx hh nx
                  rw [diptychlaw13_LensTurns_l0] at hh
                  refine hI _ ?_
                  obtain ⟨hl0a, hl0b, hl0d, hl0w, h47⟩ := walk_cons (f := lens_Prim.pv) hsplit hidx hlen0
                  refine awp_seq ?_
                  refine awp_first fun K kk hK => ?_
                  simp only [go_sem]
                  refine hK _ _ fun nx => ?_; clear hK K; try clear kk
                  refine awp_true (by first | exact congrArg PV.bool h47 | rfl) ?_
                  refine awp_skip ?_; refine nmx ?_
                  refine awp_seq ?_
                  refine awp_block ?_
                  obtain ⟨x_37, h48, hh⟩ := bind_ex hh
                  obtain ⟨h48a, h48b, h48c⟩ := rd_some h48
                  have h48d := rd_get (f := lens_Prim.pv) h48c
                  have h48f := rd_more (f := lens_Prim.pv) h48c
                  try simp only [Int.toNat_natCast, Int.reduceToNat] at h48d h48f
                  obtain ⟨turn_38, h49, hh⟩ := bind_ex hh
                  obtain ⟨asprim_39, h50, hh⟩ := bind_ex hh
                  obtain ⟨samepr_40, h51, hh⟩ := bind_ex hh
                  by_cases h52 : (!samepr_40) = true
                  · rw [if_pos h52] at hh
                    refine awp_first fun K kk hK => ?_
                    simp only [go_sem, h48a, h48b, h48d, h48f.1, h48f.2, h52, h52, hl0a, hl0b, hl0d, hl0w]
                    (repeat refine sd ?_)
                    refine step_call2 (lens_Turn_ok _ _ h49) (by (try simp only [go_sem, h48a, h48b, h48d, h48f.1, h48f.2, h52, h52, hl0a, hl0b, hl0d, hl0w]) <;> exact wkl) (by rfl) (by rfl) ?_
                    simp only [go_sem, h48a, h48b, h48d, h48f.1, h48f.2, h52, h52, hl0a, hl0b, hl0d, hl0w]
                    (repeat refine sd ?_)
                    refine step_call2 (diptychlaw13_asPrim_ok _ _ h50) (by (try simp only [go_sem, h48a, h48b, h48d, h48f.1, h48f.2, h52, h52, hl0a, hl0b, hl0d, hl0w]) <;> exact wkl) (by rfl) (by rfl) ?_
                    simp only [go_sem, h48a, h48b, h48d, h48f.1, h48f.2, h52, h52, hl0a, hl0b, hl0d, hl0w]
                    (repeat refine sd ?_)
                    refine step_call2 (diptychlaw13_samePrim_ok _ _ _ h51) (by (try simp only [go_sem, h48a, h48b, h48d, h48f.1, h48f.2, h52, h52, hl0a, hl0b, hl0d, hl0w]) <;> exact wkl) (by rfl) (by rfl) ?_
                    simp only [go_sem, h48a, h48b, h48d, h48f.1, h48f.2, h52, h52, hl0a, hl0b, hl0d, hl0w]
                    (repeat refine sd ?_)
                    refine hK _ _ fun nx => ?_; clear hK K; try clear kk
                    refine awp_true rfl ?_
                    refine awp_first fun K kk hK => ?_
                    simp only [go_sem, hl0a, hl0b, hl0d, hl0w]
                    refine hK _ _ fun nx => ?_; clear hK K; try clear kk
                    refine awp_ret ?_; refine nmx ?_
                    refine fragR ⟨_, (Option.some.inj hh), ?_⟩
                    exact ret_p2
                  · rw [if_neg h52] at hh
                    replace h52 := Bool.eq_false_iff.mpr h52
                    obtain ⟨x_41, h53, hh⟩ := bind_ex hh
                    obtain ⟨h53a, h53b, h53c⟩ := rd_some h53
                    have h53d := rd_get (f := lens_Prim.pv) h53c
                    have h53f := rd_more (f := lens_Prim.pv) h53c
                    try simp only [Int.toNat_natCast, Int.reduceToNat] at h53d h53f
                    obtain ⟨asprim_42, h54, hh⟩ := bind_ex hh
                    obtain ⟨samepr_43, h55, hh⟩ := bind_ex hh
                    by_cases h56 : (!samepr_43) = true
                    · rw [if_pos h56] at hh
                      refine awp_first fun K kk hK => ?_
                      simp only [go_sem, h48a, h48b, h48d, h48f.1, h48f.2, h52, h53a, h53b, h53d, h53f.1, h53f.2, h52, h56, h56, hl0a, hl0b, hl0d, hl0w]
                      (repeat refine sd ?_)
                      refine step_call2 (lens_Turn_ok _ _ h49) (by (try simp only [go_sem, h48a, h48b, h48d, h48f.1, h48f.2, h52, h53a, h53b, h53d, h53f.1, h53f.2, h52, h56, h56, hl0a, hl0b, hl0d, hl0w]) <;> exact wkl) (by rfl) (by rfl) ?_
                      simp only [go_sem, h48a, h48b, h48d, h48f.1, h48f.2, h52, h53a, h53b, h53d, h53f.1, h53f.2, h52, h56, h56, hl0a, hl0b, hl0d, hl0w]
                      (repeat refine sd ?_)
                      refine step_call2 (diptychlaw13_asPrim_ok _ _ h50) (by (try simp only [go_sem, h48a, h48b, h48d, h48f.1, h48f.2, h52, h53a, h53b, h53d, h53f.1, h53f.2, h52, h56, h56, hl0a, hl0b, hl0d, hl0w]) <;> exact wkl) (by rfl) (by rfl) ?_
                      simp only [go_sem, h48a, h48b, h48d, h48f.1, h48f.2, h52, h53a, h53b, h53d, h53f.1, h53f.2, h52, h56, h56, hl0a, hl0b, hl0d, hl0w]
                      (repeat refine sd ?_)
                      refine step_call2 (diptychlaw13_samePrim_ok _ _ _ h51) (by (try simp only [go_sem, h48a, h48b, h48d, h48f.1, h48f.2, h52, h53a, h53b, h53d, h53f.1, h53f.2, h52, h56, h56, hl0a, hl0b, hl0d, hl0w]) <;> exact wkl) (by rfl) (by rfl) ?_
                      simp only [go_sem, h48a, h48b, h48d, h48f.1, h48f.2, h52, h53a, h53b, h53d, h53f.1, h53f.2, h52, h56, h56, hl0a, hl0b, hl0d, hl0w]
                      (repeat refine sd ?_)
                      refine step_call2 (diptychlaw13_asPrim_ok _ _ h54) (by (try simp only [go_sem, h48a, h48b, h48d, h48f.1, h48f.2, h52, h53a, h53b, h53d, h53f.1, h53f.2, h52, h56, h56, hl0a, hl0b, hl0d, hl0w]) <;> exact wkl) (by rfl) (by rfl) ?_
                      simp only [go_sem, h48a, h48b, h48d, h48f.1, h48f.2, h52, h53a, h53b, h53d, h53f.1, h53f.2, h52, h56, h56, hl0a, hl0b, hl0d, hl0w]
                      (repeat refine sd ?_)
                      refine step_call2 (diptychlaw13_samePrim_ok _ _ _ h55) (by (try simp only [go_sem, h48a, h48b, h48d, h48f.1, h48f.2, h52, h53a, h53b, h53d, h53f.1, h53f.2, h52, h56, h56, hl0a, hl0b, hl0d, hl0w]) <;> exact wkl) (by rfl) (by rfl) ?_
                      simp only [go_sem, h48a, h48b, h48d, h48f.1, h48f.2, h52, h53a, h53b, h53d, h53f.1, h53f.2, h52, h56, h56, hl0a, hl0b, hl0d, hl0w]
                      (repeat refine sd ?_)
                      refine hK _ _ fun nx => ?_; clear hK K; try clear kk
                      refine awp_true rfl ?_
                      refine awp_first fun K kk hK => ?_
                      simp only [go_sem, hl0a, hl0b, hl0d, hl0w]
                      refine hK _ _ fun nx => ?_; clear hK K; try clear kk
                      refine awp_ret ?_; refine nmx ?_
                      refine fragR ⟨_, (Option.some.inj hh), ?_⟩
                      exact ret_p2
                    · rw [if_neg h56] at hh
                      replace h56 := Bool.eq_false_iff.mpr h56
                      obtain ⟨turn_44, h57, hh⟩ := bind_ex hh
                      obtain ⟨turn_45, h58, hh⟩ := bind_ex hh
                      obtain ⟨asprim_46, h59, hh⟩ := bind_ex hh
                      obtain ⟨samepr_47, h60, hh⟩ := bind_ex hh
                      refine awp_first fun K kk hK => ?_
                      simp only [go_sem, h48a, h48b, h48d, h48f.1, h48f.2, h52, h53a, h53b, h53d, h53f.1, h53f.2, h52, h56, h56, hl0a, hl0b, hl0d, hl0w]
                      (repeat refine sd ?_)
                      refine step_call2 (lens_Turn_ok _ _ h49) (by (try simp only [go_sem, h48a, h48b, h48d, h48f.1, h48f.2, h52, h53a, h53b, h53d, h53f.1, h53f.2, h52, h56, h56, hl0a, hl0b, hl0d, hl0w]) <;> exact wkl) (by rfl) (by rfl) ?_
                      simp only [go_sem, h48a, h48b, h48d, h48f.1, h48f.2, h52, h53a, h53b, h53d, h53f.1, h53f.2, h52, h56, h56, hl0a, hl0b, hl0d, hl0w]
                      (repeat refine sd ?_)
                      refine step_call2 (diptychlaw13_asPrim_ok _ _ h50) (by (try simp only [go_sem, h48a, h48b, h48d, h48f.1, h48f.2, h52, h53a, h53b, h53d, h53f.1, h53f.2, h52, h56, h56, hl0a, hl0b, hl0d, hl0w]) <;> exact wkl) (by rfl) (by rfl) ?_
                      simp only [go_sem, h48a, h48b, h48d, h48f.1, h48f.2, h52, h53a, h53b, h53d, h53f.1, h53f.2, h52, h56, h56, hl0a, hl0b, hl0d, hl0w]
                      (repeat refine sd ?_)
                      refine step_call2 (diptychlaw13_samePrim_ok _ _ _ h51) (by (try simp only [go_sem, h48a, h48b, h48d, h48f.1, h48f.2, h52, h53a, h53b, h53d, h53f.1, h53f.2, h52, h56, h56, hl0a, hl0b, hl0d, hl0w]) <;> exact wkl) (by rfl) (by rfl) ?_
                      simp only [go_sem, h48a, h48b, h48d, h48f.1, h48f.2, h52, h53a, h53b, h53d, h53f.1, h53f.2, h52, h56, h56, hl0a, hl0b, hl0d, hl0w]
                      (repeat refine sd ?_)
                      refine step_call2 (diptychlaw13_asPrim_ok _ _ h54) (by (try simp only [go_sem, h48a, h48b, h48d, h48f.1, h48f.2, h52, h53a, h53b, h53d, h53f.1, h53f.2, h52, h56, h56, hl0a, hl0b, hl0d, hl0w]) <;> exact wkl) (by rfl) (by rfl) ?_
                      simp only [go_sem, h48a, h48b, h48d, h48f.1, h48f.2, h52, h53a, h53b, h53d, h53f.1, h53f.2, h52, h56, h56, hl0a, hl0b, hl0d, hl0w]
                      (repeat refine sd ?_)
                      refine step_call2 (diptychlaw13_samePrim_ok _ _ _ h55) (by (try simp only [go_sem, h48a, h48b, h48d, h48f.1, h48f.2, h52, h53a, h53b, h53d, h53f.1, h53f.2, h52, h56, h56, hl0a, hl0b, hl0d, hl0w]) <;> exact wkl) (by rfl) (by rfl) ?_
                      simp only [go_sem, h48a, h48b, h48d, h48f.1, h48f.2, h52, h53a, h53b, h53d, h53f.1, h53f.2, h52, h56, h56, hl0a, hl0b, hl0d, hl0w]
                      (repeat refine sd ?_)
                      refine step_call2 (lens_Turn_ok _ _ h57) (by (try simp only [go_sem, h48a, h48b, h48d, h48f.1, h48f.2, h52, h53a, h53b, h53d, h53f.1, h53f.2, h52, h56, h56, hl0a, hl0b, hl0d, hl0w]) <;> exact wkl) (by rfl) (by rfl) ?_
                      simp only [go_sem, h48a, h48b, h48d, h48f.1, h48f.2, h52, h53a, h53b, h53d, h53f.1, h53f.2, h52, h56, h56, hl0a, hl0b, hl0d, hl0w]
                      (repeat refine sd ?_)
                      refine step_call2 (lens_Turn_ok _ _ h58) (by (try simp only [go_sem, h48a, h48b, h48d, h48f.1, h48f.2, h52, h53a, h53b, h53d, h53f.1, h53f.2, h52, h56, h56, hl0a, hl0b, hl0d, hl0w]) <;> exact wkl) (by rfl) (by rfl) ?_
                      simp only [go_sem, h48a, h48b, h48d, h48f.1, h48f.2, h52, h53a, h53b, h53d, h53f.1, h53f.2, h52, h56, h56, hl0a, hl0b, hl0d, hl0w]
                      (repeat refine sd ?_)
                      refine step_call2 (diptychlaw13_asPrim_ok _ _ h59) (by (try simp only [go_sem, h48a, h48b, h48d, h48f.1, h48f.2, h52, h53a, h53b, h53d, h53f.1, h53f.2, h52, h56, h56, hl0a, hl0b, hl0d, hl0w]) <;> exact wkl) (by rfl) (by rfl) ?_
                      simp only [go_sem, h48a, h48b, h48d, h48f.1, h48f.2, h52, h53a, h53b, h53d, h53f.1, h53f.2, h52, h56, h56, hl0a, hl0b, hl0d, hl0w]
                      (repeat refine sd ?_)
                      refine step_call2 (diptychlaw13_samePrim_ok _ _ _ h60) (by (try simp only [go_sem, h48a, h48b, h48d, h48f.1, h48f.2, h52, h53a, h53b, h53d, h53f.1, h53f.2, h52, h56, h56, hl0a, hl0b, hl0d, hl0w]) <;> exact wkl) (by rfl) (by rfl) ?_
                      simp only [go_sem, h48a, h48b, h48d, h48f.1, h48f.2, h52, h53a, h53b, h53d, h53f.1, h53f.2, h52, h56, h56, hl0a, hl0b, hl0d, hl0w]
                      (repeat refine sd ?_)
                      refine hK _ _ fun nx => ?_; clear hK K; try clear kk
                      by_cases h61 : (!samepr_47) = true
                      · rw [if_pos h61] at hh
                        refine awp_true (by first | exact congrArg PV.bool h61 | rfl) ?_
                        refine awp_first fun K kk hK => ?_
                        simp only [go_sem, hl0a, hl0b, hl0d, hl0w]
                        refine hK _ _ fun nx => ?_; clear hK K; try clear kk
                        refine awp_ret ?_; refine nmx ?_
                        refine fragR ⟨_, (Option.some.inj hh), ?_⟩
                        exact ret_p2
                      · rw [if_neg h61] at hh
                        replace h61 := Bool.eq_false_iff.mpr h61
                        refine awp_false (by first | exact congrArg PV.bool h61 | rfl) ?_
                        refine awp_skip ?_; refine nmx ?_
                        refine awp_region fun K kk hK => ?_
                        simp only [go_sem, hl0a, hl0b, hl0d, hl0w]
                        refine hK _ _ fun nx => ?_; clear hK K; try clear kk
                        refine nmx ?_
                        have ih' := ih (pre ++ [y_36]) (i_23 + 1) (by rw [hsplit]; simp) (by simp [hidx]) hh nx
                        refine cut_id ?_
                        first | exact ih' | (simp only [lens_Prim.pv_eq, lens_Lens.pv_eq, diptychref13_Prim.pv_eq, diptychref13_Lens.pv_eq, pvL, List.map_cons, List.map_nil, List.map_append, rune1] at ih' ⊢; exact ih') | (simp only [lens_Prim.pv_eq, lens_Lens.pv_eq, diptychref13_Prim.pv_eq, diptychref13_Lens.pv_eq, pvL, List.map_cons, List.map_nil, List.map_append, rune1, h13, h14, h2, h4, h47, h52, h56, h6, h61] at ih' ⊢; exact ih')
              exact key flat_5 [] _ rfl rfl f0 _
            · rintro s ⟨t, hless, rfl, i_49, v_50, nx, rfl⟩
              try dsimp only at hh
              refine nmy ?_
              first | (refine cut_less hless ?_; try refine cut_awp ?_) | refine frag_less hless ?_ | refine body_less hless ?_
              refine awp_first fun K kk hK => ?_
              simp only [go_sem]
              refine hK _ _ fun nx => ?_; clear hK K; try clear kk
              refine awp_ret ?_; refine nmx ?_
              obtain hR := Option.some.inj hh
              subst hR
              exact ret_p2
            · intro i s h; exact h.elim
            · rintro s ⟨res_48, rfl, hb⟩
              try dsimp only at hh
              obtain hR := Option.some.inj hh
              subst hR
              refine nmx ?_
              exact hb

end Go.Proofs.YtpjdafhmneiohaaDoor
