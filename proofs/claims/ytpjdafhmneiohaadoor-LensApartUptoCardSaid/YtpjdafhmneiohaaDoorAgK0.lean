/- What the functions answer, the program answers (0). -/
import Derived.Test.YtpjdafhmneiohaaDoorAgC
import Derived.Test.YtpjdafhmneiohaaDoorAgF
import Derived.Test.YtpjdafhmneiohaaDoorAgL
namespace Go.Proofs.YtpjdafhmneiohaaDoor
set_option linter.unusedSimpArgs false
set_option linter.unusedVariables false
open Go
set_option maxRecDepth 100000

theorem lens_Turn_ok (p_1 : lens_Prim) (R : lens_Prim) (hh : lens_Turn p_1 = some R) : PC Tryd.prog 32 [.agg [.int .u8 p_1.Op, .str p_1.Kind, .str p_1.Name, .str p_1.New, .list 1 (p_1.Values.map PV.str), .list 1 (p_1.To.map PV.str)]] (.agg [.int .u8 R.Op, .str R.Kind, .str R.Name, .str R.New, .list 1 (R.Values.map PV.str), .list 1 (R.To.map PV.str)]) := by
  rw [lens_Turn] at hh
  refine start_lens_Turn rfl ?_
  refine awp_first fun K kk hK => ?_
  simp only [go_sem]
  refine hK _ _ fun nx => ?_; clear hK K; try clear kk
  refine awp_seq ?_
  refine awp_first fun K kk hK => ?_
  simp only [go_sem]
  refine hK _ _ fun nx => ?_; clear hK K; try clear kk
  refine awp_block ?_
  refine awp_first fun K kk hK => ?_
  simp only [go_sem]
  refine hK _ _ fun nx => ?_; clear hK K; try clear kk
  by_cases h1 : (p_1.Op == (114 : Int)) = true
  · rw [if_pos h1] at hh
    refine awp_true (by first | exact congrArg PV.bool h1 | rfl) ?_
    refine awp_region fun K kk hK => ?_
    simp only [go_sem]
    refine hK _ _ fun nx => ?_; clear hK K; try clear kk
    refine nmx ?_
    refine awp_first fun K kk hK => ?_
    simp only [go_sem]
    refine hK _ _ fun nx => ?_; clear hK K; try clear kk
    refine awp_ret ?_; refine nmx ?_
    obtain hR := Option.some.inj hh
    subst hR
    exact ret_p2
  · rw [if_neg h1] at hh
    replace h1 := Bool.eq_false_iff.mpr h1
    refine awp_false (by first | exact congrArg PV.bool h1 | rfl) ?_
    refine awp_seq ?_
    obtain ⟨e0, f0, hh⟩ := bind_ex hh
    refine awp_frag (fun s => ∃ v_2, v_2 = e0 ∧ ∃ (nx : Nat) (g1 : Nat) (g2 : Nat), s = ⟨[(1, .box 1 g1 0), (2, .box 2 g2 0), (4, .int .u8 p_1.Op), (13, .bool v_2)], [(1, g1, .var 50 [.int .u8 p_1.Op, .str p_1.Kind, .str p_1.Name, .str p_1.New, .list 1 (p_1.Values.map PV.str), .list 1 (p_1.To.map PV.str)]), (2, g2, .var 50 [.int .u8 (0 : Int), .str ([] : Str), .str ([] : Str), .str ([] : Str), .list 1 ([].map PV.str), .list 1 ([].map PV.str)])], nx⟩)
      (fun i s => False)
      (fun s => False) ?_ ?_ ?_ ?_
    · have hh := f0
      refine awp_first fun K kk hK => ?_
      simp only [go_sem]
      refine hK _ _ fun nx => ?_; clear hK K; try clear kk
      by_cases h2 : (p_1.Op == (109 : Int)) = true
      · rw [if_pos h2] at hh
        refine awp_true (by first | exact congrArg PV.bool h2 | rfl) ?_
        refine awp_skip ?_; refine nmx ?_
        refine fragN ?_
        refine cut_id ?_
        refine ⟨_, (Option.some.inj hh), ?_⟩
        first | exact ⟨_, _, _, rfl⟩ | (simp only [lens_Prim.pv_eq, lens_Lens.pv_eq, diptychref13_Prim.pv_eq, diptychref13_Lens.pv_eq, pvL, List.map_cons, List.map_nil, List.map_append, rune1]; exact ⟨_, _, _, rfl⟩) | (simp only [lens_Prim.pv_eq, lens_Lens.pv_eq, diptychref13_Prim.pv_eq, diptychref13_Lens.pv_eq, pvL, List.map_cons, List.map_nil, List.map_append, rune1, h1, h2]; exact ⟨_, _, _, rfl⟩)
      · rw [if_neg h2] at hh
        replace h2 := Bool.eq_false_iff.mpr h2
        refine awp_false (by first | exact congrArg PV.bool h2 | rfl) ?_
        refine awp_region fun K kk hK => ?_
        simp only [go_sem]
        refine hK _ _ fun nx => ?_; clear hK K; try clear kk
        refine nmx ?_
        refine fragN ?_
        refine cut_id ?_
        refine ⟨_, (Option.some.inj hh), ?_⟩
        first | exact ⟨_, _, _, rfl⟩ | (simp only [lens_Prim.pv_eq, lens_Lens.pv_eq, diptychref13_Prim.pv_eq, diptychref13_Lens.pv_eq, pvL, List.map_cons, List.map_nil, List.map_append, rune1]; exact ⟨_, _, _, rfl⟩) | (simp only [lens_Prim.pv_eq, lens_Lens.pv_eq, diptychref13_Prim.pv_eq, diptychref13_Lens.pv_eq, pvL, List.map_cons, List.map_nil, List.map_append, rune1, h1, h2]; exact ⟨_, _, _, rfl⟩)
    · rintro s ⟨v_2, rfl, nx, g1, g2, rfl⟩
      try dsimp only at hh
      by_cases h3 : (v_2) = true
      · rw [if_pos h3] at hh
        refine awp_true (by first | exact congrArg PV.bool h3 | rfl) ?_
        refine awp_region fun K kk hK => ?_
        simp only [go_sem]
        refine hK _ _ fun nx => ?_; clear hK K; try clear kk
        refine nmx ?_
        refine awp_first fun K kk hK => ?_
        simp only [go_sem]
        refine hK _ _ fun nx => ?_; clear hK K; try clear kk
        refine awp_ret ?_; refine nmx ?_
        obtain hR := Option.some.inj hh
        subst hR
        exact ret_p2
      · rw [if_neg h3] at hh
        replace h3 := Bool.eq_false_iff.mpr h3
        refine awp_false (by first | exact congrArg PV.bool h3 | rfl) ?_
        refine awp_first fun K kk hK => ?_
        simp only [go_sem]
        refine hK _ _ fun nx => ?_; clear hK K; try clear kk
        by_cases h4 : (p_1.Op == (116 : Int)) = true
        · rw [if_pos h4] at hh
          refine awp_true (by first | exact congrArg PV.bool h4 | rfl) ?_
          refine awp_region fun K kk hK => ?_
          simp only [go_sem]
          refine hK _ _ fun nx => ?_; clear hK K; try clear kk
          refine nmx ?_
          refine awp_first fun K kk hK => ?_
          simp only [go_sem]
          refine hK _ _ fun nx => ?_; clear hK K; try clear kk
          refine awp_ret ?_; refine nmx ?_
          obtain hR := Option.some.inj hh
          subst hR
          exact ret_p2
        · rw [if_neg h4] at hh
          replace h4 := Bool.eq_false_iff.mpr h4
          refine awp_false (by first | exact congrArg PV.bool h4 | rfl) ?_
          refine awp_first fun K kk hK => ?_
          simp only [go_sem]
          refine hK _ _ fun nx => ?_; clear hK K; try clear kk
          by_cases h5 : (p_1.Op == (97 : Int)) = true
          · rw [if_pos h5] at hh
            refine awp_true (by first | exact congrArg PV.bool h5 | rfl) ?_
            refine awp_region fun K kk hK => ?_
            simp only [go_sem]
            refine hK _ _ fun nx => ?_; clear hK K; try clear kk
            refine nmx ?_
            refine awp_first fun K kk hK => ?_
            simp only [go_sem]
            refine hK _ _ fun nx => ?_; clear hK K; try clear kk
            refine awp_ret ?_; refine nmx ?_
            obtain hR := Option.some.inj hh
            subst hR
            exact ret_p2
          · rw [if_neg h5] at hh
            replace h5 := Bool.eq_false_iff.mpr h5
            refine awp_false (by first | exact congrArg PV.bool h5 | rfl) ?_
            refine awp_first fun K kk hK => ?_
            simp only [go_sem]
            refine hK _ _ fun nx => ?_; clear hK K; try clear kk
            by_cases h6 : (p_1.Op == (100 : Int)) = true
            · rw [if_pos h6] at hh
              refine awp_true (by first | exact congrArg PV.bool h6 | rfl) ?_
              refine awp_region fun K kk hK => ?_
              simp only [go_sem]
              refine hK _ _ fun nx => ?_; clear hK K; try clear kk
              refine nmx ?_
              refine awp_first fun K kk hK => ?_
              simp only [go_sem]
              refine hK _ _ fun nx => ?_; clear hK K; try clear kk
              refine awp_ret ?_; refine nmx ?_
              obtain hR := Option.some.inj hh
              subst hR
              exact ret_p2
            · rw [if_neg h6] at hh
              replace h6 := Bool.eq_false_iff.mpr h6
              refine awp_false (by first | exact congrArg PV.bool h6 | rfl) ?_
              refine awp_first fun K kk hK => ?_
              simp only [go_sem]
              refine hK _ _ fun nx => ?_; clear hK K; try clear kk
              by_cases h7 : (p_1.Op == (119 : Int)) = true
              · rw [if_pos h7] at hh
                refine awp_true (by first | exact congrArg PV.bool h7 | rfl) ?_
                refine awp_region fun K kk hK => ?_
                simp only [go_sem]
                refine hK _ _ fun nx => ?_; clear hK K; try clear kk
                refine nmx ?_
                refine awp_first fun K kk hK => ?_
                simp only [go_sem]
                refine hK _ _ fun nx => ?_; clear hK K; try clear kk
                refine awp_ret ?_; refine nmx ?_
                obtain hR := Option.some.inj hh
                subst hR
                exact ret_p2
              · rw [if_neg h7] at hh
                replace h7 := Bool.eq_false_iff.mpr h7
                refine awp_false (by first | exact congrArg PV.bool h7 | rfl) ?_
                refine awp_first fun K kk hK => ?_
                simp only [go_sem]
                refine hK _ _ fun nx => ?_; clear hK K; try clear kk
                by_cases h8 : (p_1.Op == (117 : Int)) = true
                · rw [if_pos h8] at hh
                  refine awp_true (by first | exact congrArg PV.bool h8 | rfl) ?_
                  refine awp_region fun K kk hK => ?_
                  simp only [go_sem]
                  refine hK _ _ fun nx => ?_; clear hK K; try clear kk
                  refine nmx ?_
                  refine awp_first fun K kk hK => ?_
                  simp only [go_sem]
                  refine hK _ _ fun nx => ?_; clear hK K; try clear kk
                  refine awp_ret ?_; refine nmx ?_
                  obtain hR := Option.some.inj hh
                  subst hR
                  exact ret_p2
                · rw [if_neg h8] at hh
                  replace h8 := Bool.eq_false_iff.mpr h8
                  refine awp_false (by first | exact congrArg PV.bool h8 | rfl) ?_
                  refine awp_first fun K kk hK => ?_
                  simp only [go_sem]
                  refine hK _ _ fun nx => ?_; clear hK K; try clear kk
                  by_cases h9 : (p_1.Op == (104 : Int)) = true
                  · rw [if_pos h9] at hh
                    refine awp_true (by first | exact congrArg PV.bool h9 | rfl) ?_
                    refine awp_region fun K kk hK => ?_
                    simp only [go_sem]
                    refine hK _ _ fun nx => ?_; clear hK K; try clear kk
                    refine nmx ?_
                    refine awp_first fun K kk hK => ?_
                    simp only [go_sem]
                    refine hK _ _ fun nx => ?_; clear hK K; try clear kk
                    refine awp_ret ?_; refine nmx ?_
                    obtain hR := Option.some.inj hh
                    subst hR
                    exact ret_p2
                  · rw [if_neg h9] at hh
                    replace h9 := Bool.eq_false_iff.mpr h9
                    refine awp_false (by first | exact congrArg PV.bool h9 | rfl) ?_
                    refine awp_first fun K kk hK => ?_
                    simp only [go_sem]
                    refine hK _ _ fun nx => ?_; clear hK K; try clear kk
                    by_cases h10 : (p_1.Op == (115 : Int)) = true
                    · rw [if_pos h10] at hh
                      refine awp_true (by first | exact congrArg PV.bool h10 | rfl) ?_
                      refine awp_region fun K kk hK => ?_
                      simp only [go_sem]
                      refine hK _ _ fun nx => ?_; clear hK K; try clear kk
                      refine nmx ?_
                      refine awp_first fun K kk hK => ?_
                      simp only [go_sem]
                      refine hK _ _ fun nx => ?_; clear hK K; try clear kk
                      refine awp_ret ?_; refine nmx ?_
                      obtain hR := Option.some.inj hh
                      subst hR
                      exact ret_p2
                    · rw [if_neg h10] at hh
                      replace h10 := Bool.eq_false_iff.mpr h10
                      refine awp_false (by first | exact congrArg PV.bool h10 | rfl) ?_
                      refine awp_skip ?_; refine nmx ?_
                      refine awp_first fun K kk hK => ?_
                      simp only [go_sem]
                      refine hK _ _ fun nx => ?_; clear hK K; try clear kk
                      refine awp_ret ?_; refine nmx ?_
                      obtain hR := Option.some.inj hh
                      subst hR
                      exact ret_p2
    · intro i s h; exact h.elim
    · intro s h; exact h.elim
theorem slices_Reverse_lens_Prim_x_ok (l_1 : (List lens_Prim)) (R : (List lens_Prim)) (hh : slices_Reverse_lens_Prim_x l_1 = some R) : BC Tryd.prog 77 [.row 1000 0 l_1.length] [.row false 6 (l_1.map lens_Prim.pv)] (.tup []) [.row false 6 (R.map lens_Prim.pv)] := by
  rw [slices_Reverse_lens_Prim_x] at hh
  refine start_slices_Reverse_lens_Prim_x rfl rfl rfl ?_
  refine awp_first fun K kk hK => ?_
  simp only [go_sem]
  refine hK _ _ fun nx => ?_; clear hK K; try clear kk
  obtain ⟨e0, f0, hh⟩ := bind_ex hh
  refine awp_fragE (CutTo (fun s => ∃ s_18, s_18 = e0 ∧ ∃ (i_15 : Int) (j_16 : Int) (v_17 : Bool) (nx : Nat), s = ⟨[(0, .row 1000 0 s_18.length), (2, .int .i64 i_15), (3, .int .i64 j_16), (9, .bool v_17)], [(1000, 0, .row false 6 (s_18.map lens_Prim.pv))], nx⟩))
    (fun i s => False)
    (fun s => False) ?_ ?_ ?_ ?_
  · refine awp_block ?_
    refine awp_loopJ fun I hI => ?_
    obtain ⟨k, f0⟩ := lim_some f0
    have key : ∀ (k : Nat) (i_7 : Int) (j_8 : Int) (s_9 : (List lens_Prim)), slices_Reverse_lens_Prim_x_l0 k i_7 j_8 s_9 = some e0 → ∀ (nx : Nat), I ⟨[(0, .row 1000 0 s_9.length), (2, .int .i64 i_7), (3, .int .i64 j_8)], [(1000, 0, .row false 6 (s_9.map lens_Prim.pv))], nx⟩ := by
      intro k
      induction k with
      | zero => intro i_7 j_8 s_9 hh; rw [slices_Reverse_lens_Prim_x_l0] at hh; cases hh
      | succ k ih =>
        intro i_7 j_8 s_9 hh nx
        rw [slices_Reverse_lens_Prim_x_l0] at hh
        refine hI _ ?_
        refine awp_seq ?_
        refine awp_first fun K kk hK => ?_
        simp only [go_sem]
        refine hK _ _ fun nx => ?_; clear hK K; try clear kk
        by_cases h7 : (decide (i_7 < j_8)) = true
        · rw [if_pos h7] at hh
          refine awp_true (by first | exact congrArg PV.bool h7 | rfl) ?_
          refine awp_skip ?_; refine nmx ?_
          refine awp_seq ?_
          refine awp_block ?_
          obtain ⟨x_10, h8, hh⟩ := bind_ex hh
          obtain ⟨h8a, h8b, h8c⟩ := rd_some h8
          have h8d := rd_get (f := lens_Prim.pv) h8c
          have h8f := rd_more (f := lens_Prim.pv) h8c
          try simp only [Int.toNat_natCast, Int.reduceToNat] at h8d h8f
          obtain ⟨x_11, h9, hh⟩ := bind_ex hh
          obtain ⟨h9a, h9b, h9c⟩ := rd_some h9
          have h9d := rd_get (f := lens_Prim.pv) h9c
          have h9f := rd_more (f := lens_Prim.pv) h9c
          try simp only [Int.toNat_natCast, Int.reduceToNat] at h9d h9f
          obtain ⟨l_12, h10, hh⟩ := bind_ex hh
          obtain ⟨h10a, h10c⟩ := wr_some h10
          have h10d := wr_map (f := lens_Prim.pv) h10c
          try simp only [Int.toNat_natCast, Int.reduceToNat, List.map_cons, List.map_nil, List.cons_append, List.nil_append, List.singleton_append, lens_Prim.pv_eq, lens_Lens.pv_eq, diptychref13_Prim.pv_eq, diptychref13_Lens.pv_eq, pvL] at h10d
          have h10e := wr_len h10c
          have h8b_h10 := h8b; rw [h10e] at h8b_h10
          have h8f1_h10 := h8f.1; rw [h10e] at h8f1_h10
          have h8a_h10 := h8a; try rw [h10e] at h8a_h10
          have h8d_h10 := h8d; try rw [h10e] at h8d_h10
          try rw [h10e] at h10d
          have h9b_h10 := h9b; rw [h10e] at h9b_h10
          have h9f1_h10 := h9f.1; rw [h10e] at h9f1_h10
          have h9a_h10 := h9a; try rw [h10e] at h9a_h10
          have h9d_h10 := h9d; try rw [h10e] at h9d_h10
          try rw [h10e] at h10d
          have h10bw := h10a.2; rw [h10e] at h10bw
          obtain ⟨x_13, h11, hh⟩ := bind_ex hh
          obtain ⟨h11a, h11b, h11c⟩ := rd_some h11
          have h11d := rd_get (f := lens_Prim.pv) h11c
          have h11f := rd_more (f := lens_Prim.pv) h11c
          try simp only [Int.toNat_natCast, Int.reduceToNat] at h11d h11f
          obtain ⟨l_14, h12, hh⟩ := bind_ex hh
          obtain ⟨h12a, h12c⟩ := wr_some h12
          have h12d := wr_map (f := lens_Prim.pv) h12c
          try simp only [Int.toNat_natCast, Int.reduceToNat, List.map_cons, List.map_nil, List.cons_append, List.nil_append, List.singleton_append, lens_Prim.pv_eq, lens_Lens.pv_eq, diptychref13_Prim.pv_eq, diptychref13_Lens.pv_eq, pvL] at h12d
          have h12e := wr_len h12c
          have h8b_h10_h12 := h8b_h10; rw [h12e] at h8b_h10_h12
          have h8f1_h10_h12 := h8f1_h10; rw [h12e] at h8f1_h10_h12
          have h8a_h10_h12 := h8a_h10; try rw [h12e] at h8a_h10_h12
          have h8d_h10_h12 := h8d_h10; try rw [h12e] at h8d_h10_h12
          try rw [h12e] at h12d
          have h9b_h10_h12 := h9b_h10; rw [h12e] at h9b_h10_h12
          have h9f1_h10_h12 := h9f1_h10; rw [h12e] at h9f1_h10_h12
          have h9a_h10_h12 := h9a_h10; try rw [h12e] at h9a_h10_h12
          have h9d_h10_h12 := h9d_h10; try rw [h12e] at h9d_h10_h12
          try rw [h12e] at h12d
          have h10bw_h12 := h10bw; rw [h12e] at h10bw_h12
          try rw [h12e] at h12d
          have h11b_h12 := h11b; rw [h12e] at h11b_h12
          have h11f1_h12 := h11f.1; rw [h12e] at h11f1_h12
          have h11a_h12 := h11a; try rw [h12e] at h11a_h12
          have h11d_h12 := h11d; try rw [h12e] at h11d_h12
          try rw [h12e] at h12d
          have h12bw := h12a.2; rw [h12e] at h12bw
          refine awp_region fun K kk hK => ?_
          simp only [go_sem, h8a, h8b, h8d, h8f.1, h8f.2, h9a, h9b, h9d, h9f.1, h9f.2, h9a, h9b, h9d, h9f.1, h9f.2, h10a.1, h10a.2, h10d, h10e, h8b_h10, h8f1_h10, h8a_h10, h8d_h10, h9b_h10, h9f1_h10, h9a_h10, h9d_h10, h10bw, h11a, h11b, h11d, h11f.1, h11f.2, h12a.1, h12a.2, h12d, h12e, h8b_h10_h12, h8f1_h10_h12, h8a_h10_h12, h8d_h10_h12, h9b_h10_h12, h9f1_h10_h12, h9a_h10_h12, h9d_h10_h12, h10bw_h12, h11b_h12, h11f1_h12, h11a_h12, h11d_h12, h12bw]
          (repeat refine sd ?_)
          try simp only [go_sem, h8a, h8b, h8d, h8f.1, h8f.2, h9a, h9b, h9d, h9f.1, h9f.2, h9a, h9b, h9d, h9f.1, h9f.2, h10a.1, h10a.2, h10d, h10e, h8b_h10, h8f1_h10, h8a_h10, h8d_h10, h9b_h10, h9f1_h10, h9a_h10, h9d_h10, h10bw, h11a, h11b, h11d, h11f.1, h11f.2, h12a.1, h12a.2, h12d, h12e, h8b_h10_h12, h8f1_h10_h12, h8a_h10_h12, h8d_h10_h12, h9b_h10_h12, h9f1_h10_h12, h9a_h10_h12, h9d_h10_h12, h10bw_h12, h11b_h12, h11f1_h12, h11a_h12, h11d_h12, h12bw]
          refine hK _ _ fun nx => ?_; clear hK K; try clear kk
          refine nmx ?_
          refine awp_region fun K kk hK => ?_
          simp only [go_sem]
          refine hK _ _ fun nx => ?_; clear hK K; try clear kk
          refine nmx ?_
          have ih' := ih _ _ _ hh nx
          refine cut_id ?_
          first | exact ih' | (simp only [lens_Prim.pv_eq, lens_Lens.pv_eq, diptychref13_Prim.pv_eq, diptychref13_Lens.pv_eq, pvL, List.map_cons, List.map_nil, List.map_append, rune1, h10e, h12e] at ih' ⊢; exact ih') | (simp only [lens_Prim.pv_eq, lens_Lens.pv_eq, diptychref13_Prim.pv_eq, diptychref13_Lens.pv_eq, pvL, List.map_cons, List.map_nil, List.map_append, rune1, h10e, h12e, h7] at ih' ⊢; exact ih')
        · rw [if_neg h7] at hh
          replace h7 := Bool.eq_false_iff.mpr h7
          refine awp_false (by first | exact congrArg PV.bool h7 | rfl) ?_
          refine awp_exit ?_; refine nmx ?_
          refine fragN ?_
          refine cut_id ?_
          refine ⟨_, (Option.some.inj hh), ?_⟩
          first | exact ⟨_, _, _, _, rfl⟩ | (simp only [lens_Prim.pv_eq, lens_Lens.pv_eq, diptychref13_Prim.pv_eq, diptychref13_Lens.pv_eq, pvL, List.map_cons, List.map_nil, List.map_append, rune1]; exact ⟨_, _, _, _, rfl⟩) | (simp only [lens_Prim.pv_eq, lens_Lens.pv_eq, diptychref13_Prim.pv_eq, diptychref13_Lens.pv_eq, pvL, List.map_cons, List.map_nil, List.map_append, rune1, h7]; exact ⟨_, _, _, _, rfl⟩)
    exact key _ _ _ _ f0 _
  · rintro s ⟨t, hless, s_18, rfl, i_15, j_16, v_17, nx, rfl⟩
    try dsimp only at hh
    refine nmy ?_
    first | (refine cut_less hless ?_; try refine cut_awp ?_) | refine frag_less hless ?_ | refine body_less hless ?_
    obtain hR := Option.some.inj hh
    subst hR
    refine body_end ?_
    refine ret_pureB ?_ (by rfl) ?_
    · simp only [go_sem, rvsRes, rvRes, cellRes, tupOf, pur2, List.map_cons, List.map_append, List.head?_cons]
      all_goals exact wkw
    · (try simp only [go_sem]); (try simp only [List.length_append, List.map_append]); all_goals exact wkb
  · intro i s h; exact h.elim
  · intro s h; exact h.elim
theorem lens_Flat_grp : ∀ kr : Nat, (∀ (l_1 : lens_Lens) (R : (List lens_Prim)), lens_Flat_k kr l_1 = some R → PC Tryd.prog 35 [.agg [.int .u8 l_1.Prim.Op, .str l_1.Prim.Kind, .str l_1.Prim.Name, .str l_1.Prim.New, .list 1 (l_1.Prim.Values.map PV.str), .list 1 (l_1.Prim.To.map PV.str), .bool l_1.Turned, .list 8 (l_1.Kids.map lens_Lens.pv)]] (.own 6 (R.map lens_Prim.pv))) := by
  intro kr
  induction kr with
  | zero => exact (by intro l_1 R hh; rw [lens_Flat_k] at hh; cases hh)
  | succ kr ih =>
    have ih_lens_Flat := ih
    clear ih
    intro l_1 R hh
    rw [lens_Flat_k] at hh
    refine start_lens_Flat rfl ?_
    refine awp_first fun K kk hK => ?_
    simp only [go_sem]
    refine hK _ _ fun nx => ?_; clear hK K; try clear kk
    refine awp_seq ?_
    refine awp_first fun K kk hK => ?_
    simp only [go_sem]
    refine hK _ _ fun nx => ?_; clear hK K; try clear kk
    by_cases h1 : (l_1.Prim.Op != (0 : Int)) = true
    · rw [if_pos h1] at hh
      refine awp_true (by first | exact congrArg PV.bool h1 | rfl) ?_
      refine awp_first fun K kk hK => ?_
      simp only [go_sem]
      refine hK _ _ fun nx => ?_; clear hK K; try clear kk
      refine awp_ret ?_; refine nmx ?_
      obtain hR := Option.some.inj hh
      subst hR
      exact ret_own (by rfl) (by rfl) (by rfl) (by simp only [List.length_map, List.length_cons, List.length_nil, Nat.zero_add, Nat.reduceAdd]) (by first | rfl | (simp only [lens_Prim.pv_eq, lens_Lens.pv_eq, diptychref13_Prim.pv_eq, diptychref13_Lens.pv_eq, pvL, List.map_cons, List.map_nil, List.map_append, rune1]; done) | (simp only [lens_Prim.pv_eq, lens_Lens.pv_eq, diptychref13_Prim.pv_eq, diptychref13_Lens.pv_eq, pvL, List.map_cons, List.map_nil, List.map_append, rune1]; rfl))
    · rw [if_neg h1] at hh
      replace h1 := Bool.eq_false_iff.mpr h1
      refine awp_false (by first | exact congrArg PV.bool h1 | rfl) ?_
      refine awp_skip ?_; refine nmx ?_
      refine awp_first fun K kk hK => ?_
      simp only [go_sem]
      refine hK _ _ fun nx => ?_; clear hK K; try clear kk
      refine awp_seq ?_
      refine awp_first fun K kk hK => ?_
      simp only [go_sem]
      refine hK _ _ fun nx => ?_; clear hK K; try clear kk
      obtain ⟨e0, f0, hh⟩ := bind_ex hh
      obtain ⟨hlen0, f0⟩ := chk_some f0
      refine awp_fragE (CutTo (fun s => ∃ out_15, out_15 = e0 ∧ ∃ (v_13 : Int) (v_14 : Bool) (nx : Nat) (g1 : Nat) (g3 : Nat), s = ⟨[(1, .box 1 g1 0), (3, .row 3 g3 out_15.length), (16, .list 8 (l_1.Kids.map lens_Lens.pv)), (17, .int .i64 (l_1.Kids.length : Int)), (18, .int .i64 v_13), (19, .bool v_14)], [(1, g1, .var 53 [.int .u8 l_1.Prim.Op, .str l_1.Prim.Kind, .str l_1.Prim.Name, .str l_1.Prim.New, .list 1 (l_1.Prim.Values.map PV.str), .list 1 (l_1.Prim.To.map PV.str), .bool l_1.Turned, .list 8 (l_1.Kids.map lens_Lens.pv)]), (3, g3, .row false 6 (out_15.map lens_Prim.pv))], nx⟩))
        (fun i s => False)
        (fun s => False) ?_ ?_ ?_ ?_
      · refine awp_block ?_
        refine awp_loopJ fun I hI => ?_
        have key : ∀ (suf pre : List lens_Lens) (v_5 : Int) (out_6 : (List lens_Prim)), l_1.Kids = pre ++ suf → v_5 = (pre.length : Int) → lens_Flat_l0 (lens_Flat_k kr) suf v_5 out_6 = some e0 → ∀ (nx : Nat) (g1 : Nat) (g3 : Nat), I ⟨[(1, .box 1 g1 0), (3, .row 3 g3 out_6.length), (16, .list 8 (l_1.Kids.map lens_Lens.pv)), (17, .int .i64 (l_1.Kids.length : Int)), (18, .int .i64 v_5)], [(1, g1, .var 53 [.int .u8 l_1.Prim.Op, .str l_1.Prim.Kind, .str l_1.Prim.Name, .str l_1.Prim.New, .list 1 (l_1.Prim.Values.map PV.str), .list 1 (l_1.Prim.To.map PV.str), .bool l_1.Turned, .list 8 (l_1.Kids.map lens_Lens.pv)]), (3, g3, .row false 6 (out_6.map lens_Prim.pv))], nx⟩ := by
          intro suf
          induction suf with
          | nil =>
            intro pre v_5 out_6 hsplit hidx hh nx g1 g3
            rw [lens_Flat_l0] at hh
            refine hI _ ?_
            have h10 := walk_nil hsplit hidx
            refine awp_first fun K kk hK => ?_
            simp only [go_sem]
            refine hK _ _ fun nx => ?_; clear hK K; try clear kk
            refine awp_seq ?_
            refine awp_false (by first | exact congrArg PV.bool h10 | rfl) ?_
            refine awp_exit ?_; refine nmx ?_
            refine fragN ?_
            refine cut_id ?_
            refine ⟨_, (Option.some.inj hh), ?_⟩
            first | exact ⟨_, _, _, _, _, rfl⟩ | (simp only [lens_Prim.pv_eq, lens_Lens.pv_eq, diptychref13_Prim.pv_eq, diptychref13_Lens.pv_eq, pvL, List.map_cons, List.map_nil, List.map_append, rune1]; exact ⟨_, _, _, _, _, rfl⟩) | (simp only [lens_Prim.pv_eq, lens_Lens.pv_eq, diptychref13_Prim.pv_eq, diptychref13_Lens.pv_eq, pvL, List.map_cons, List.map_nil, List.map_append, rune1, h1, h10]; exact ⟨_, _, _, _, _, rfl⟩)
          | cons y_10 suf ih =>
            intro pre v_5 out_6 hsplit hidx hh nx g1 g3
            rw [lens_Flat_l0] at hh
            refine hI _ ?_
            obtain ⟨hl0a, hl0b, hl0d, hl0w, h10⟩ := walk_cons (f := lens_Lens.pv) hsplit hidx hlen0
            refine awp_first fun K kk hK => ?_
            simp only [go_sem]
            refine hK _ _ fun nx => ?_; clear hK K; try clear kk
            refine awp_seq ?_
            refine awp_true (by first | exact congrArg PV.bool h10 | rfl) ?_
            refine awp_skip ?_; refine nmx ?_
            refine awp_seq ?_
            refine awp_block ?_
            refine awp_first fun K kk hK => ?_
            simp only [go_sem, hl0a, hl0b, hl0d, hl0w]
            refine hK _ _ fun nx => ?_; clear hK K; try clear kk
            obtain ⟨flat_11, h11, hh⟩ := bind_ex hh
            obtain ⟨l_12, h12, hh⟩ := bind_ex hh
            obtain ⟨h12a, h12c⟩ := app_some h12
            have h12d := app_map (f := lens_Prim.pv) h12c
            have h12e := app_len h12c
            try simp only [List.length_cons, List.length_nil, Nat.zero_add, Nat.reduceAdd] at h12a h12e
            try simp only [h12e] at h12a
            try simp only [List.map_cons, List.map_nil, List.nil_append, List.append_nil, List.cons_append, List.singleton_append, rune1, lens_Prim.pv_eq, lens_Lens.pv_eq, diptychref13_Prim.pv_eq, diptychref13_Lens.pv_eq, pvL] at h12d
            refine awp_region fun K kk hK => ?_
            simp only [go_sem, h12a, h12d, h12e, hl0a, hl0b, hl0d, hl0w]
            (repeat refine sd ?_)
            refine step_call2 (ih_lens_Flat _ _ h11).list (by (try simp only [go_sem, h12a, h12d, h12e, hl0a, hl0b, hl0d, hl0w]) <;> exact wkl) (by rfl) (by rfl) ?_
            simp only [go_sem, h12a, h12d, h12e, hl0a, hl0b, hl0d, hl0w]
            (repeat refine sd ?_)
            refine hK _ _ fun nx => ?_; clear hK K; try clear kk
            refine nmx ?_
            refine awp_region fun K kk hK => ?_
            simp only [go_sem, hl0a, hl0b, hl0d, hl0w]
            refine hK _ _ fun nx => ?_; clear hK K; try clear kk
            refine nmx ?_
            have ih' := ih (pre ++ [y_10]) (v_5 + 1) _ (by rw [hsplit]; simp) (by simp [hidx]) hh nx
            refine cut_id ?_
            first | exact ih' _ _ | (simp only [lens_Prim.pv_eq, lens_Lens.pv_eq, diptychref13_Prim.pv_eq, diptychref13_Lens.pv_eq, pvL, List.map_cons, List.map_nil, List.map_append, rune1, h12e] at ih' ⊢; exact ih' _ _) | (simp only [lens_Prim.pv_eq, lens_Lens.pv_eq, diptychref13_Prim.pv_eq, diptychref13_Lens.pv_eq, pvL, List.map_cons, List.map_nil, List.map_append, rune1, h12e, h1, h10] at ih' ⊢; exact ih' _ _)
        exact key l_1.Kids [] _ _ rfl rfl f0 _ _ _
      · rintro s ⟨t, hless, out_15, rfl, v_13, v_14, nx, g1, g3, rfl⟩
        try dsimp only at hh
        refine nmy ?_
        first | (refine cut_less hless ?_; try refine cut_awp ?_) | refine frag_less hless ?_ | refine body_less hless ?_
        refine awp_seq ?_
        refine awp_first fun K kk hK => ?_
        simp only [go_sem]
        refine hK _ _ fun nx => ?_; clear hK K; try clear kk
        by_cases h13 : (l_1.Turned) = true
        · rw [if_pos h13] at hh
          refine awp_true (by first | exact congrArg PV.bool h13 | rfl) ?_
          obtain ⟨l_16, h14, hh⟩ := bind_ex hh
          obtain ⟨h15, hh⟩ := chk_some hh
          refine awp_first fun K kk hK => ?_
          simp only [go_sem, h15]
          (repeat refine sd ?_)
          refine step_callC [3] (by decide) (slices_Reverse_lens_Prim_x_ok _ _ h14) (by (try simp only [go_sem, h15, h1, h13]) <;> exact wkb) (by rfl) ?_
          simp only [go_sem, h15]
          (repeat refine sd ?_)
          refine hK _ _ fun nx => ?_; clear hK K; try clear kk
          refine awp_first fun K kk hK => ?_
          simp only [go_sem]
          refine hK _ _ fun nx => ?_; clear hK K; try clear kk
          obtain ⟨e1, f1, hh⟩ := bind_ex hh
          refine awp_fragE (CutTo (fun s => ∃ out_27, out_27 = e1 ∧ ∃ (v_25 : Int) (v_26 : Bool) (nx : Nat) (g3 : Nat), s = ⟨[(3, .row 3 g3 out_27.length), (31, .row 3 g3 out_27.length), (32, .int .i64 (l_16.length : Int)), (33, .int .i64 v_25), (34, .bool v_26)], [(3, g3, .row false 6 (out_27.map lens_Prim.pv))], nx⟩))
            (fun i s => False)
            (fun s => False) ?_ ?_ ?_ ?_
          · refine awp_block ?_
            refine awp_loopJ fun I hI => ?_
            obtain ⟨k, f1⟩ := lim_some f1
            have key : ∀ (k : Nat) (v_20 : Int) (out_21 : (List lens_Prim)), lens_Flat_l1 l_16 k v_20 out_21 = some e1 → ∀ (nx : Nat) (g3 : Nat), I ⟨[(3, .row 3 g3 out_21.length), (31, .row 3 g3 out_21.length), (32, .int .i64 (l_16.length : Int)), (33, .int .i64 v_20)], [(3, g3, .row false 6 (out_21.map lens_Prim.pv))], nx⟩ := by
              intro k
              induction k with
              | zero => intro v_20 out_21 hh; rw [lens_Flat_l1] at hh; cases hh
              | succ k ih =>
                intro v_20 out_21 hh nx g3
                rw [lens_Flat_l1] at hh
                refine hI _ ?_
                refine awp_first fun K kk hK => ?_
                simp only [go_sem]
                refine hK _ _ fun nx => ?_; clear hK K; try clear kk
                refine awp_seq ?_
                by_cases h20 : (decide (v_20 < (l_16.length : Int))) = true
                · rw [if_pos h20] at hh
                  refine awp_true (by first | exact congrArg PV.bool h20 | rfl) ?_
                  refine awp_skip ?_; refine nmx ?_
                  refine awp_seq ?_
                  refine awp_block ?_
                  obtain ⟨x_22, h21, hh⟩ := bind_ex hh
                  obtain ⟨h21a, h21b, h21c⟩ := rd_some h21
                  have h21d := rd_get (f := lens_Prim.pv) h21c
                  have h21f := rd_more (f := lens_Prim.pv) h21c
                  try simp only [Int.toNat_natCast, Int.reduceToNat] at h21d h21f
                  refine awp_first fun K kk hK => ?_
                  simp only [go_sem, h21a, h21b, h21d, h21f.1, h21f.2]
                  (repeat refine sd ?_)
                  refine hK _ _ fun nx => ?_; clear hK K; try clear kk
                  obtain ⟨turn_23, h22, hh⟩ := bind_ex hh
                  obtain ⟨l_24, h23, hh⟩ := bind_ex hh
                  obtain ⟨h23a, h23c⟩ := wr_some h23
                  have h23d := wr_map (f := lens_Prim.pv) h23c
                  try simp only [Int.toNat_natCast, Int.reduceToNat, List.map_cons, List.map_nil, List.cons_append, List.nil_append, List.singleton_append, lens_Prim.pv_eq, lens_Lens.pv_eq, diptychref13_Prim.pv_eq, diptychref13_Lens.pv_eq, pvL] at h23d
                  have h23e := wr_len h23c
                  have h21b_h23 := h21b; rw [h23e] at h21b_h23
                  have h21f1_h23 := h21f.1; rw [h23e] at h21f1_h23
                  have h21a_h23 := h21a; try rw [h23e] at h21a_h23
                  have h21d_h23 := h21d; try rw [h23e] at h21d_h23
                  try rw [h23e] at h23d
                  have h23bw := h23a.2; rw [h23e] at h23bw
                  refine awp_region fun K kk hK => ?_
                  simp only [go_sem, h21a, h21b, h21d, h21f.1, h21f.2, h23a.1, h23a.2, h23d, h23e, h21b_h23, h21f1_h23, h21a_h23, h21d_h23, h23bw]
                  (repeat refine sd ?_)
                  refine step_call2 (lens_Turn_ok _ _ h22) (by (try simp only [go_sem, h21a, h21b, h21d, h21f.1, h21f.2, h23a.1, h23a.2, h23d, h23e, h21b_h23, h21f1_h23, h21a_h23, h21d_h23, h23bw]) <;> exact wkl) (by rfl) (by rfl) ?_
                  simp only [go_sem, h21a, h21b, h21d, h21f.1, h21f.2, h23a.1, h23a.2, h23d, h23e, h21b_h23, h21f1_h23, h21a_h23, h21d_h23, h23bw]
                  (repeat refine sd ?_)
                  try simp only [go_sem, h21a, h21b, h21d, h21f.1, h21f.2, h23a.1, h23a.2, h23d, h23e, h21b_h23, h21f1_h23, h21a_h23, h21d_h23, h23bw]
                  refine hK _ _ fun nx => ?_; clear hK K; try clear kk
                  refine nmx ?_
                  refine awp_region fun K kk hK => ?_
                  simp only [go_sem]
                  refine hK _ _ fun nx => ?_; clear hK K; try clear kk
                  refine nmx ?_
                  have ih' := ih _ _ hh nx
                  refine cut_id ?_
                  first | exact ih' _ | (simp only [lens_Prim.pv_eq, lens_Lens.pv_eq, diptychref13_Prim.pv_eq, diptychref13_Lens.pv_eq, pvL, List.map_cons, List.map_nil, List.map_append, rune1, h23e] at ih' ⊢; exact ih' _) | (simp only [lens_Prim.pv_eq, lens_Lens.pv_eq, diptychref13_Prim.pv_eq, diptychref13_Lens.pv_eq, pvL, List.map_cons, List.map_nil, List.map_append, rune1, h23e, h1, h13, h20] at ih' ⊢; exact ih' _)
                · rw [if_neg h20] at hh
                  replace h20 := Bool.eq_false_iff.mpr h20
                  refine awp_false (by first | exact congrArg PV.bool h20 | rfl) ?_
                  refine awp_exit ?_; refine nmx ?_
                  refine fragN ?_
                  refine cut_id ?_
                  refine ⟨_, (Option.some.inj hh), ?_⟩
                  first | exact ⟨_, _, _, _, rfl⟩ | (simp only [lens_Prim.pv_eq, lens_Lens.pv_eq, diptychref13_Prim.pv_eq, diptychref13_Lens.pv_eq, pvL, List.map_cons, List.map_nil, List.map_append, rune1]; exact ⟨_, _, _, _, rfl⟩) | (simp only [lens_Prim.pv_eq, lens_Lens.pv_eq, diptychref13_Prim.pv_eq, diptychref13_Lens.pv_eq, pvL, List.map_cons, List.map_nil, List.map_append, rune1, h1, h13, h20]; exact ⟨_, _, _, _, rfl⟩)
            exact key _ _ _ f1 _ _
          · rintro s ⟨t, hless, out_27, rfl, v_25, v_26, nx, g3, rfl⟩
            try dsimp only at hh
            refine nmy ?_
            first | (refine cut_less hless ?_; try refine cut_awp ?_) | refine frag_less hless ?_ | refine body_less hless ?_
            refine awp_first fun K kk hK => ?_
            simp only [go_sem]
            refine hK _ _ fun nx => ?_; clear hK K; try clear kk
            refine awp_ret ?_; refine nmx ?_
            obtain hR := Option.some.inj hh
            subst hR
            exact ret_own (by rfl) (by rfl) (by rfl) (by simp only [List.length_map, List.length_cons, List.length_nil, Nat.zero_add, Nat.reduceAdd]) (by first | rfl | (simp only [lens_Prim.pv_eq, lens_Lens.pv_eq, diptychref13_Prim.pv_eq, diptychref13_Lens.pv_eq, pvL, List.map_cons, List.map_nil, List.map_append, rune1]; done) | (simp only [lens_Prim.pv_eq, lens_Lens.pv_eq, diptychref13_Prim.pv_eq, diptychref13_Lens.pv_eq, pvL, List.map_cons, List.map_nil, List.map_append, rune1]; rfl))
          · intro i s h; exact h.elim
          · intro s h; exact h.elim
        · rw [if_neg h13] at hh
          replace h13 := Bool.eq_false_iff.mpr h13
          refine awp_false (by first | exact congrArg PV.bool h13 | rfl) ?_
          refine awp_skip ?_; refine nmx ?_
          refine awp_first fun K kk hK => ?_
          simp only [go_sem]
          refine hK _ _ fun nx => ?_; clear hK K; try clear kk
          refine awp_ret ?_; refine nmx ?_
          obtain hR := Option.some.inj hh
          subst hR
          exact ret_own (by rfl) (by rfl) (by rfl) (by simp only [List.length_map, List.length_cons, List.length_nil, Nat.zero_add, Nat.reduceAdd]) (by first | rfl | (simp only [lens_Prim.pv_eq, lens_Lens.pv_eq, diptychref13_Prim.pv_eq, diptychref13_Lens.pv_eq, pvL, List.map_cons, List.map_nil, List.map_append, rune1]; done) | (simp only [lens_Prim.pv_eq, lens_Lens.pv_eq, diptychref13_Prim.pv_eq, diptychref13_Lens.pv_eq, pvL, List.map_cons, List.map_nil, List.map_append, rune1]; rfl))
      · intro i s h; exact h.elim
      · intro s h; exact h.elim
theorem lens_Flat_ok (l_1 : lens_Lens) (R : (List lens_Prim)) (hh : lens_Flat l_1 = some R) : PC Tryd.prog 35 [.agg [.int .u8 l_1.Prim.Op, .str l_1.Prim.Kind, .str l_1.Prim.Name, .str l_1.Prim.New, .list 1 (l_1.Prim.Values.map PV.str), .list 1 (l_1.Prim.To.map PV.str), .bool l_1.Turned, .list 8 (l_1.Kids.map lens_Lens.pv)]] (.own 6 (R.map lens_Prim.pv)) := by
  rw [lens_Flat] at hh
  obtain ⟨kr, hh⟩ := lim_some hh
  exact (lens_Flat_grp kr) _ _ hh
theorem lens_Lens_many_grp : ∀ kr : Nat, (∀ (l_1 : lens_Lens) (R : Int), lens_Lens_many_k kr l_1 = some R → PC Tryd.prog 72 [.agg [.int .u8 l_1.Prim.Op, .str l_1.Prim.Kind, .str l_1.Prim.Name, .str l_1.Prim.New, .list 1 (l_1.Prim.Values.map PV.str), .list 1 (l_1.Prim.To.map PV.str), .bool l_1.Turned, .list 8 (l_1.Kids.map lens_Lens.pv)]] (.int .i64 R)) := by
  intro kr
  induction kr with
  | zero => exact (by intro l_1 R hh; rw [lens_Lens_many_k] at hh; cases hh)
  | succ kr ih =>
    have ih_lens_Lens_many := ih
    clear ih
    intro l_1 R hh
    rw [lens_Lens_many_k] at hh
    refine start_lens_Lens_many rfl ?_
    refine awp_first fun K kk hK => ?_
    simp only [go_sem]
    refine hK _ _ fun nx => ?_; clear hK K; try clear kk
    refine awp_first fun K kk hK => ?_
    simp only [go_sem]
    refine hK _ _ fun nx => ?_; clear hK K; try clear kk
    refine awp_seq ?_
    refine awp_first fun K kk hK => ?_
    simp only [go_sem]
    refine hK _ _ fun nx => ?_; clear hK K; try clear kk
    obtain ⟨e0, f0, hh⟩ := bind_ex hh
    obtain ⟨hlen0, f0⟩ := chk_some f0
    refine awp_fragE (CutTo (fun s => ∃ n_10, n_10 = e0 ∧ ∃ (v_11 : Int) (v_12 : Bool) (nx : Nat), s = ⟨[(3, .int .i64 n_10), (7, .list 8 (l_1.Kids.map lens_Lens.pv)), (8, .int .i64 (l_1.Kids.length : Int)), (9, .int .i64 v_11), (10, .bool v_12)], [], nx⟩))
      (fun i s => False)
      (fun s => False) ?_ ?_ ?_ ?_
    · refine awp_block ?_
      refine awp_loopJ fun I hI => ?_
      have key : ∀ (suf pre : List lens_Lens) (v_5 : Int) (n_4 : Int), l_1.Kids = pre ++ suf → v_5 = (pre.length : Int) → lens_Lens_many_l0 (lens_Lens_many_k kr) suf v_5 n_4 = some e0 → ∀ (nx : Nat), I ⟨[(3, .int .i64 n_4), (7, .list 8 (l_1.Kids.map lens_Lens.pv)), (8, .int .i64 (l_1.Kids.length : Int)), (9, .int .i64 v_5)], [], nx⟩ := by
        intro suf
        induction suf with
        | nil =>
          intro pre v_5 n_4 hsplit hidx hh nx
          rw [lens_Lens_many_l0] at hh
          refine hI _ ?_
          have h7 := walk_nil hsplit hidx
          refine awp_first fun K kk hK => ?_
          simp only [go_sem]
          refine hK _ _ fun nx => ?_; clear hK K; try clear kk
          refine awp_seq ?_
          refine awp_false (by first | exact congrArg PV.bool h7 | rfl) ?_
          refine awp_exit ?_; refine nmx ?_
          refine fragN ?_
          refine cut_id ?_
          refine ⟨_, (Option.some.inj hh), ?_⟩
          first | exact ⟨_, _, _, rfl⟩ | (simp only [lens_Prim.pv_eq, lens_Lens.pv_eq, diptychref13_Prim.pv_eq, diptychref13_Lens.pv_eq, pvL, List.map_cons, List.map_nil, List.map_append, rune1]; exact ⟨_, _, _, rfl⟩) | (simp only [lens_Prim.pv_eq, lens_Lens.pv_eq, diptychref13_Prim.pv_eq, diptychref13_Lens.pv_eq, pvL, List.map_cons, List.map_nil, List.map_append, rune1, h7]; exact ⟨_, _, _, rfl⟩)
        | cons y_8 suf ih =>
          intro pre v_5 n_4 hsplit hidx hh nx
          rw [lens_Lens_many_l0] at hh
          refine hI _ ?_
          obtain ⟨hl0a, hl0b, hl0d, hl0w, h7⟩ := walk_cons (f := lens_Lens.pv) hsplit hidx hlen0
          refine awp_first fun K kk hK => ?_
          simp only [go_sem]
          refine hK _ _ fun nx => ?_; clear hK K; try clear kk
          refine awp_seq ?_
          refine awp_true (by first | exact congrArg PV.bool h7 | rfl) ?_
          refine awp_skip ?_; refine nmx ?_
          refine awp_seq ?_
          refine awp_block ?_
          refine awp_first fun K kk hK => ?_
          simp only [go_sem, hl0a, hl0b, hl0d, hl0w]
          refine hK _ _ fun nx => ?_; clear hK K; try clear kk
          obtain ⟨many_9, h8, hh⟩ := bind_ex hh
          refine awp_region fun K kk hK => ?_
          simp only [go_sem, hl0a, hl0b, hl0d, hl0w]
          refine step_call2 (ih_lens_Lens_many _ _ h8) (by (try simp only [go_sem, hl0a, hl0b, hl0d, hl0w]) <;> exact wkl) (by rfl) (by rfl) ?_
          simp only [go_sem, hl0a, hl0b, hl0d, hl0w]
          refine hK _ _ fun nx => ?_; clear hK K; try clear kk
          refine nmx ?_
          refine awp_region fun K kk hK => ?_
          simp only [go_sem, hl0a, hl0b, hl0d, hl0w]
          refine hK _ _ fun nx => ?_; clear hK K; try clear kk
          refine nmx ?_
          have ih' := ih (pre ++ [y_8]) (v_5 + 1) _ (by rw [hsplit]; simp) (by simp [hidx]) hh nx
          refine cut_id ?_
          first | exact ih' | (simp only [lens_Prim.pv_eq, lens_Lens.pv_eq, diptychref13_Prim.pv_eq, diptychref13_Lens.pv_eq, pvL, List.map_cons, List.map_nil, List.map_append, rune1] at ih' ⊢; exact ih') | (simp only [lens_Prim.pv_eq, lens_Lens.pv_eq, diptychref13_Prim.pv_eq, diptychref13_Lens.pv_eq, pvL, List.map_cons, List.map_nil, List.map_append, rune1, h7] at ih' ⊢; exact ih')
      exact key l_1.Kids [] _ _ rfl rfl f0 _
    · rintro s ⟨t, hless, n_10, rfl, v_11, v_12, nx, rfl⟩
      try dsimp only at hh
      refine nmy ?_
      first | (refine cut_less hless ?_; try refine cut_awp ?_) | refine frag_less hless ?_ | refine body_less hless ?_
      refine awp_first fun K kk hK => ?_
      simp only [go_sem]
      refine hK _ _ fun nx => ?_; clear hK K; try clear kk
      refine awp_ret ?_; refine nmx ?_
      obtain hR := Option.some.inj hh
      subst hR
      exact ret_p2
    · intro i s h; exact h.elim
    · intro s h; exact h.elim
theorem lens_Lens_many_ok (l_1 : lens_Lens) (R : Int) (hh : lens_Lens_many l_1 = some R) : PC Tryd.prog 72 [.agg [.int .u8 l_1.Prim.Op, .str l_1.Prim.Kind, .str l_1.Prim.Name, .str l_1.Prim.New, .list 1 (l_1.Prim.Values.map PV.str), .list 1 (l_1.Prim.To.map PV.str), .bool l_1.Turned, .list 8 (l_1.Kids.map lens_Lens.pv)]] (.int .i64 R) := by
  rw [lens_Lens_many] at hh
  obtain ⟨kr, hh⟩ := lim_some hh
  exact (lens_Lens_many_grp kr) _ _ hh
theorem lens_Lens_plain_ok (l_1 : lens_Lens) (R : Bool) (hh : lens_Lens_plain l_1 = some R) : PC Tryd.prog 101 [.agg [.int .u8 l_1.Prim.Op, .str l_1.Prim.Kind, .str l_1.Prim.Name, .str l_1.Prim.New, .list 1 (l_1.Prim.Values.map PV.str), .list 1 (l_1.Prim.To.map PV.str), .bool l_1.Turned, .list 8 (l_1.Kids.map lens_Lens.pv)]] (.bool R) := by
  rw [lens_Lens_plain] at hh
  refine start_lens_Lens_plain rfl ?_
  refine awp_first fun K kk hK => ?_
  simp only [go_sem]
  refine hK _ _ fun nx => ?_; clear hK K; try clear kk
  by_cases h1 : (l_1.Prim.Op == (0 : Int)) = true
  · rw [if_pos h1] at hh
    refine awp_first fun K kk hK => ?_
    simp only [go_sem, h1, h1]
    (repeat refine sd ?_)
    refine hK _ _ fun nx => ?_; clear hK K; try clear kk
    refine awp_ret ?_; refine nmx ?_
    obtain hR := Option.some.inj hh
    subst hR
    exact ret_p2
  · rw [if_neg h1] at hh
    replace h1 := Bool.eq_false_iff.mpr h1
    refine awp_first fun K kk hK => ?_
    simp only [go_sem, h1, h1]
    (repeat refine sd ?_)
    refine hK _ _ fun nx => ?_; clear hK K; try clear kk
    refine awp_ret ?_; refine nmx ?_
    obtain hR := Option.some.inj hh
    subst hR
    exact ret_p2
theorem strings_Trim_ok (s : Str) (cutset : Str) (R : Str) (hh : strings_Trim s cutset = some R) : PC Tryd.prog 144 [.str s, .str cutset] (.str R) := by
  rw [strings_Trim] at hh
  exact lib_trim (tr := Lib.trimS) ⟨_, Tryd.func144, by kernel_rfl, by kernel_rfl⟩ (fun s c w h1 h2 h3 => Any.strings_Trim_laid Tryd.lays160 (by kernel_rfl) s c w h1 h2 h3) s cutset R hh
theorem node_Name_ok (s_1 : Str) (R : Bool) (hh : node_Name s_1 = some R) : PC Tryd.prog 120 [.str s_1] (.bool R) := by
  rw [node_Name] at hh
  refine start_node_Name rfl ?_
  refine awp_first fun K kk hK => ?_
  simp only [go_sem]
  refine hK _ _ fun nx => ?_; clear hK K; try clear kk
  obtain ⟨trim_2, h1, hh⟩ := bind_ex hh
  refine awp_first fun K kk hK => ?_
  simp only [go_sem]
  refine step_call2 (strings_Trim_ok _ _ _ h1) (by (try simp only [go_sem]) <;> exact wkl) (by rfl) (by rfl) ?_
  simp only [go_sem]
  refine hK _ _ fun nx => ?_; clear hK K; try clear kk
  by_cases h2 : (trim_2 == ([] : Str)) = true
  · rw [if_pos h2] at hh
    by_cases h3 : (!(s_1 == ([] : Str))) = true
    · rw [if_pos h3] at hh
      by_cases h4 : (decide ((s_1.length : Int) ≤ (8 : Int))) = true
      · rw [if_pos h4] at hh
        refine awp_first fun K kk hK => ?_
        simp only [go_sem, h2, h2, h3, h3, h4, of_decide_eq_true h4, h4, of_decide_eq_true h4]
        (repeat refine sd ?_)
        refine hK _ _ fun nx => ?_; clear hK K; try clear kk
        refine awp_ret ?_; refine nmx ?_
        obtain hR := Option.some.inj hh
        subst hR
        exact ret_p2
      · rw [if_neg h4] at hh
        replace h4 := Bool.eq_false_iff.mpr h4
        refine awp_first fun K kk hK => ?_
        simp only [go_sem, h2, h2, h3, h3, h4, of_decide_eq_false h4, h4, of_decide_eq_false h4]
        (repeat refine sd ?_)
        refine hK _ _ fun nx => ?_; clear hK K; try clear kk
        refine awp_ret ?_; refine nmx ?_
        obtain hR := Option.some.inj hh
        subst hR
        exact ret_p2
    · rw [if_neg h3] at hh
      replace h3 := Bool.eq_false_iff.mpr h3
      refine awp_first fun K kk hK => ?_
      simp only [go_sem, h2, h2, h3, h3]
      (repeat refine sd ?_)
      refine hK _ _ fun nx => ?_; clear hK K; try clear kk
      refine awp_ret ?_; refine nmx ?_
      obtain hR := Option.some.inj hh
      subst hR
      exact ret_p2
  · rw [if_neg h2] at hh
    replace h2 := Bool.eq_false_iff.mpr h2
    refine awp_first fun K kk hK => ?_
    simp only [go_sem, h2, h2]
    (repeat refine sd ?_)
    refine hK _ _ fun nx => ?_; clear hK K; try clear kk
    refine awp_ret ?_; refine nmx ?_
    obtain hR := Option.some.inj hh
    subst hR
    exact ret_p2
theorem slices_Index_string_ok (s_1 : (List Str)) (v_2 : Str) (R : Int) (hh : slices_Index_string s_1 v_2 = some R) : PC Tryd.prog 166 [.list 1 (s_1.map PV.str), .str v_2] (.int .i64 R) := by
  rw [slices_Index_string] at hh
  refine start_slices_Index_string rfl ?_
  refine awp_first fun K kk hK => ?_
  simp only [go_sem]
  refine hK _ _ fun nx => ?_; clear hK K; try clear kk
  refine awp_seq ?_
  refine awp_first fun K kk hK => ?_
  simp only [go_sem]
  refine hK _ _ fun nx => ?_; clear hK K; try clear kk
  obtain ⟨e0, f0, hh⟩ := bind_ex hh
  obtain ⟨hlen0, f0⟩ := chk_some f0
  refine awp_fragE (CutTo (fun s => .inr () = e0 ∧ ∃ (v_8 : Int) (v_9 : Bool) (nx : Nat), s = ⟨[(0, .list 1 (s_1.map PV.str)), (1, .str v_2), (7, .int .i64 (s_1.length : Int)), (8, .int .i64 v_8), (9, .bool v_9)], [], nx⟩))
    (fun i s => False)
    (fun s => ∃ res_7, .inl res_7 = e0 ∧ bodyR Tryd.prog [.tmp 4] (.int .i64 res_7) [] .ret s) ?_ ?_ ?_ ?_
  · refine awp_block ?_
    refine awp_loopJ fun I hI => ?_
    have key : ∀ (suf pre : List Str) (v_4 : Int), s_1 = pre ++ suf → v_4 = (pre.length : Int) → slices_Index_string_l0 v_2 suf v_4 = some e0 → ∀ (nx : Nat), I ⟨[(0, .list 1 (s_1.map PV.str)), (1, .str v_2), (7, .int .i64 (s_1.length : Int)), (8, .int .i64 v_4)], [], nx⟩ := by
      intro suf
      induction suf with
      | nil =>
        intro pre v_4 hsplit hidx hh nx
        rw [slices_Index_string_l0] at hh
        refine hI _ ?_
        have h7 := walk_nil hsplit hidx
        refine awp_first fun K kk hK => ?_
        simp only [go_sem]
        refine hK _ _ fun nx => ?_; clear hK K; try clear kk
        refine awp_seq ?_
        refine awp_false (by first | exact congrArg PV.bool h7 | rfl) ?_
        refine awp_exit ?_; refine nmx ?_
        refine fragN ?_
        refine cut_id ?_
        refine ⟨(Option.some.inj hh), ?_⟩
        first | exact ⟨_, _, _, rfl⟩ | (simp only [lens_Prim.pv_eq, lens_Lens.pv_eq, diptychref13_Prim.pv_eq, diptychref13_Lens.pv_eq, pvL, List.map_cons, List.map_nil, List.map_append, rune1]; exact ⟨_, _, _, rfl⟩) | (simp only [lens_Prim.pv_eq, lens_Lens.pv_eq, diptychref13_Prim.pv_eq, diptychref13_Lens.pv_eq, pvL, List.map_cons, List.map_nil, List.map_append, rune1, h7]; exact ⟨_, _, _, rfl⟩)
      | cons y_6 suf ih =>
        intro pre v_4 hsplit hidx hh nx
        rw [slices_Index_string_l0] at hh
        refine hI _ ?_
        obtain ⟨hl0a, hl0b, hl0d, hl0w, h7⟩ := walk_cons (f := PV.str) hsplit hidx hlen0
        refine awp_first fun K kk hK => ?_
        simp only [go_sem]
        refine hK _ _ fun nx => ?_; clear hK K; try clear kk
        refine awp_seq ?_
        refine awp_true (by first | exact congrArg PV.bool h7 | rfl) ?_
        refine awp_skip ?_; refine nmx ?_
        refine awp_seq ?_
        refine awp_block ?_
        refine awp_first fun K kk hK => ?_
        simp only [go_sem, hl0a, hl0b, hl0d, hl0w]
        refine hK _ _ fun nx => ?_; clear hK K; try clear kk
        refine awp_first fun K kk hK => ?_
        simp only [go_sem, hl0a, hl0b, hl0d, hl0w]
        refine hK _ _ fun nx => ?_; clear hK K; try clear kk
        by_cases h8 : (v_2 == y_6) = true
        · rw [if_pos h8] at hh
          refine awp_true (by first | exact congrArg PV.bool h8 | rfl) ?_
          refine awp_first fun K kk hK => ?_
          simp only [go_sem, hl0a, hl0b, hl0d, hl0w]
          refine hK _ _ fun nx => ?_; clear hK K; try clear kk
          refine awp_ret ?_; refine nmx ?_
          refine fragR ⟨_, (Option.some.inj hh), ?_⟩
          exact ret_p2
        · rw [if_neg h8] at hh
          replace h8 := Bool.eq_false_iff.mpr h8
          refine awp_false (by first | exact congrArg PV.bool h8 | rfl) ?_
          refine awp_skip ?_; refine nmx ?_
          refine awp_region fun K kk hK => ?_
          simp only [go_sem, hl0a, hl0b, hl0d, hl0w]
          refine hK _ _ fun nx => ?_; clear hK K; try clear kk
          refine nmx ?_
          have ih' := ih (pre ++ [y_6]) (v_4 + 1) (by rw [hsplit]; simp) (by simp [hidx]) hh nx
          refine cut_id ?_
          first | exact ih' | (simp only [lens_Prim.pv_eq, lens_Lens.pv_eq, diptychref13_Prim.pv_eq, diptychref13_Lens.pv_eq, pvL, List.map_cons, List.map_nil, List.map_append, rune1] at ih' ⊢; exact ih') | (simp only [lens_Prim.pv_eq, lens_Lens.pv_eq, diptychref13_Prim.pv_eq, diptychref13_Lens.pv_eq, pvL, List.map_cons, List.map_nil, List.map_append, rune1, h7, h8] at ih' ⊢; exact ih')
    exact key s_1 [] _ rfl rfl f0 _
  · rintro s ⟨t, hless, rfl, v_8, v_9, nx, rfl⟩
    try dsimp only at hh
    refine nmy ?_
    first | (refine cut_less hless ?_; try refine cut_awp ?_) | refine frag_less hless ?_ | refine body_less hless ?_
    refine awp_first fun K kk hK => ?_
    simp only [go_sem]
    refine hK _ _ fun nx => ?_; clear hK K; try clear kk
    refine awp_ret ?_; refine nmx ?_
    obtain hR := Option.some.inj hh
    subst hR
    exact ret_p2
  · intro i s h; exact h.elim
  · rintro s ⟨res_7, rfl, hb⟩
    try dsimp only at hh
    obtain hR := Option.some.inj hh
    subst hR
    refine nmx ?_
    exact hb
theorem slices_Contains_string_ok (s_1 : (List Str)) (v_2 : Str) (R : Bool) (hh : slices_Contains_string s_1 v_2 = some R) : PC Tryd.prog 145 [.list 1 (s_1.map PV.str), .str v_2] (.bool R) := by
  rw [slices_Contains_string] at hh
  refine start_slices_Contains_string rfl ?_
  refine awp_first fun K kk hK => ?_
  simp only [go_sem]
  refine hK _ _ fun nx => ?_; clear hK K; try clear kk
  obtain ⟨string_3, h1, hh⟩ := bind_ex hh
  refine awp_first fun K kk hK => ?_
  simp only [go_sem]
  refine step_call2 (slices_Index_string_ok _ _ _ h1) (by (try simp only [go_sem]) <;> exact wkl) (by rfl) (by rfl) ?_
  simp only [go_sem]
  refine hK _ _ fun nx => ?_; clear hK K; try clear kk
  refine awp_ret ?_; refine nmx ?_
  obtain hR := Option.some.inj hh
  subst hR
  exact ret_p2
theorem lens_values_ok (l_1 : (List Str)) (least_2 : Int) (R : Bool) (hh : lens_values l_1 least_2 = some R) : PC Tryd.prog 121 [.list 1 (l_1.map PV.str), .int .i64 least_2] (.bool R) := by
  rw [lens_values] at hh
  refine start_lens_values rfl ?_
  refine awp_first fun K kk hK => ?_
  simp only [go_sem]
  refine hK _ _ fun nx => ?_; clear hK K; try clear kk
  refine awp_seq ?_
  refine awp_first fun K kk hK => ?_
  simp only [go_sem]
  refine hK _ _ fun nx => ?_; clear hK K; try clear kk
  obtain ⟨e0, f0, hh⟩ := bind_ex hh
  obtain ⟨hlen0, f0⟩ := chk_some f0
  refine awp_fragE (CutTo (fun s => .inr () = e0 ∧ ∃ (v_17 : Int) (v_18 : Bool) (nx : Nat), s = ⟨[(0, .list 1 (l_1.map PV.str)), (1, .int .i64 least_2), (7, .list 1 (l_1.map PV.str)), (8, .int .i64 (l_1.length : Int)), (9, .int .i64 v_17), (10, .bool v_18)], [], nx⟩))
    (fun i s => False)
    (fun s => ∃ res_16, .inl res_16 = e0 ∧ bodyR Tryd.prog [.tmp 4] (.bool res_16) [] .ret s) ?_ ?_ ?_ ?_
  · refine awp_block ?_
    refine awp_loopJ fun I hI => ?_
    have key : ∀ (suf pre : List Str) (v_7 : Int), l_1 = pre ++ suf → v_7 = (pre.length : Int) → lens_values_l0 l_1 suf v_7 = some e0 → ∀ (nx : Nat), I ⟨[(0, .list 1 (l_1.map PV.str)), (1, .int .i64 least_2), (7, .list 1 (l_1.map PV.str)), (8, .int .i64 (l_1.length : Int)), (9, .int .i64 v_7)], [], nx⟩ := by
      intro suf
      induction suf with
      | nil =>
        intro pre v_7 hsplit hidx hh nx
        rw [lens_values_l0] at hh
        refine hI _ ?_
        have h15 := walk_nil hsplit hidx
        refine awp_first fun K kk hK => ?_
        simp only [go_sem]
        refine hK _ _ fun nx => ?_; clear hK K; try clear kk
        refine awp_seq ?_
        refine awp_false (by first | exact congrArg PV.bool h15 | rfl) ?_
        refine awp_exit ?_; refine nmx ?_
        refine fragN ?_
        refine cut_id ?_
        refine ⟨(Option.some.inj hh), ?_⟩
        first | exact ⟨_, _, _, rfl⟩ | (simp only [lens_Prim.pv_eq, lens_Lens.pv_eq, diptychref13_Prim.pv_eq, diptychref13_Lens.pv_eq, pvL, List.map_cons, List.map_nil, List.map_append, rune1]; exact ⟨_, _, _, rfl⟩) | (simp only [lens_Prim.pv_eq, lens_Lens.pv_eq, diptychref13_Prim.pv_eq, diptychref13_Lens.pv_eq, pvL, List.map_cons, List.map_nil, List.map_append, rune1, h15]; exact ⟨_, _, _, rfl⟩)
      | cons y_12 suf ih =>
        intro pre v_7 hsplit hidx hh nx
        rw [lens_values_l0] at hh
        refine hI _ ?_
        obtain ⟨hl0a, hl0b, hl0d, hl0w, h15⟩ := walk_cons (f := PV.str) hsplit hidx hlen0
        refine awp_first fun K kk hK => ?_
        simp only [go_sem]
        refine hK _ _ fun nx => ?_; clear hK K; try clear kk
        refine awp_seq ?_
        refine awp_true (by first | exact congrArg PV.bool h15 | rfl) ?_
        refine awp_skip ?_; refine nmx ?_
        refine awp_seq ?_
        refine awp_block ?_
        refine awp_first fun K kk hK => ?_
        simp only [go_sem, hl0a, hl0b, hl0d, hl0w]
        refine hK _ _ fun nx => ?_; clear hK K; try clear kk
        obtain ⟨name_13, h16, hh⟩ := bind_ex hh
        by_cases h17 : (!name_13) = true
        · rw [if_pos h17] at hh
          refine awp_first fun K kk hK => ?_
          simp only [go_sem, h17, h17, hl0a, hl0b, hl0d, hl0w]
          (repeat refine sd ?_)
          refine step_call2 (node_Name_ok _ _ h16) (by (try simp only [go_sem, h17, h17, hl0a, hl0b, hl0d, hl0w]) <;> exact wkl) (by rfl) (by rfl) ?_
          simp only [go_sem, h17, h17, hl0a, hl0b, hl0d, hl0w]
          (repeat refine sd ?_)
          refine hK _ _ fun nx => ?_; clear hK K; try clear kk
          refine awp_true rfl ?_
          refine awp_first fun K kk hK => ?_
          simp only [go_sem, hl0a, hl0b, hl0d, hl0w]
          refine hK _ _ fun nx => ?_; clear hK K; try clear kk
          refine awp_ret ?_; refine nmx ?_
          refine fragR ⟨_, (Option.some.inj hh), ?_⟩
          exact ret_p2
        · rw [if_neg h17] at hh
          replace h17 := Bool.eq_false_iff.mpr h17
          obtain ⟨s_14, h18, hh⟩ := bind_ex hh
          obtain ⟨h18a, h18c⟩ := sl_some h18
          have h18g := sl_le h18a
          have h18d := sl_map0 (f := PV.str) h18c
          try simp only [Int.toNat_natCast, Int.reduceToNat, List.map_cons, List.map_nil, lens_Prim.pv_eq, lens_Lens.pv_eq, diptychref13_Prim.pv_eq, diptychref13_Lens.pv_eq, pvL] at h18d
          obtain ⟨string_15, h19, hh⟩ := bind_ex hh
          refine awp_first fun K kk hK => ?_
          simp only [go_sem, h17, h18a.1, h18a.2.1, h18a.2.2, h18d, h18g, h17, hl0a, hl0b, hl0d, hl0w]
          (repeat refine sd ?_)
          refine step_call2 (node_Name_ok _ _ h16) (by (try simp only [go_sem, h17, h18a.1, h18a.2.1, h18a.2.2, h18d, h18g, h17, hl0a, hl0b, hl0d, hl0w]) <;> exact wkl) (by rfl) (by rfl) ?_
          simp only [go_sem, h17, h18a.1, h18a.2.1, h18a.2.2, h18d, h18g, h17, hl0a, hl0b, hl0d, hl0w]
          (repeat refine sd ?_)
          refine step_call2 (slices_Contains_string_ok _ _ _ h19) (by (try simp only [go_sem, h17, h18a.1, h18a.2.1, h18a.2.2, h18d, h18g, h17, hl0a, hl0b, hl0d, hl0w]) <;> exact wkl) (by rfl) (by rfl) ?_
          simp only [go_sem, h17, h18a.1, h18a.2.1, h18a.2.2, h18d, h18g, h17, hl0a, hl0b, hl0d, hl0w]
          (repeat refine sd ?_)
          refine hK _ _ fun nx => ?_; clear hK K; try clear kk
          by_cases h20 : (string_15) = true
          · rw [if_pos h20] at hh
            refine awp_true (by first | exact congrArg PV.bool h20 | rfl) ?_
            refine awp_first fun K kk hK => ?_
            simp only [go_sem, hl0a, hl0b, hl0d, hl0w]
            refine hK _ _ fun nx => ?_; clear hK K; try clear kk
            refine awp_ret ?_; refine nmx ?_
            refine fragR ⟨_, (Option.some.inj hh), ?_⟩
            exact ret_p2
          · rw [if_neg h20] at hh
            replace h20 := Bool.eq_false_iff.mpr h20
            refine awp_false (by first | exact congrArg PV.bool h20 | rfl) ?_
            refine awp_skip ?_; refine nmx ?_
            refine awp_region fun K kk hK => ?_
            simp only [go_sem, hl0a, hl0b, hl0d, hl0w]
            refine hK _ _ fun nx => ?_; clear hK K; try clear kk
            refine nmx ?_
            have ih' := ih (pre ++ [y_12]) (v_7 + 1) (by rw [hsplit]; simp) (by simp [hidx]) hh nx
            refine cut_id ?_
            first | exact ih' | (simp only [lens_Prim.pv_eq, lens_Lens.pv_eq, diptychref13_Prim.pv_eq, diptychref13_Lens.pv_eq, pvL, List.map_cons, List.map_nil, List.map_append, rune1] at ih' ⊢; exact ih') | (simp only [lens_Prim.pv_eq, lens_Lens.pv_eq, diptychref13_Prim.pv_eq, diptychref13_Lens.pv_eq, pvL, List.map_cons, List.map_nil, List.map_append, rune1, h15, h17, h20] at ih' ⊢; exact ih')
    exact key l_1 [] _ rfl rfl f0 _
  · rintro s ⟨t, hless, rfl, v_17, v_18, nx, rfl⟩
    try dsimp only at hh
    refine nmy ?_
    first | (refine cut_less hless ?_; try refine cut_awp ?_) | refine frag_less hless ?_ | refine body_less hless ?_
    by_cases h21 : (decide ((l_1.length : Int) ≥ least_2)) = true
    · rw [if_pos h21] at hh
      refine awp_first fun K kk hK => ?_
      simp only [go_sem, h21, of_decide_eq_true h21, h21, of_decide_eq_true h21]
      (repeat refine sd ?_)
      refine hK _ _ fun nx => ?_; clear hK K; try clear kk
      refine awp_ret ?_; refine nmx ?_
      obtain hR := Option.some.inj hh
      subst hR
      exact ret_p2
    · rw [if_neg h21] at hh
      replace h21 := Bool.eq_false_iff.mpr h21
      refine awp_first fun K kk hK => ?_
      simp only [go_sem, h21, of_decide_eq_false h21, h21, of_decide_eq_false h21]
      (repeat refine sd ?_)
      refine hK _ _ fun nx => ?_; clear hK K; try clear kk
      refine awp_ret ?_; refine nmx ?_
      obtain hR := Option.some.inj hh
      subst hR
      exact ret_p2
  · intro i s h; exact h.elim
  · rintro s ⟨res_16, rfl, hb⟩
    try dsimp only at hh
    obtain hR := Option.some.inj hh
    subst hR
    refine nmx ?_
    exact hb

end Go.Proofs.YtpjdafhmneiohaaDoor
