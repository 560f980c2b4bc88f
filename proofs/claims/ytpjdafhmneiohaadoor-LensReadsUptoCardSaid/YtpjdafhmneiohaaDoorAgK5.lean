/- What the functions answer, the program answers (5). -/
import Derived.Test.YtpjdafhmneiohaaDoorAgC
import Derived.Test.YtpjdafhmneiohaaDoorAgF
import Derived.Test.YtpjdafhmneiohaaDoorAgK4
namespace Go.Proofs.YtpjdafhmneiohaaDoor
set_option linter.unusedSimpArgs false
set_option linter.unusedVariables false
open Go
set_option maxRecDepth 100000

theorem diptychref13_prim_ok (p_1 : diptychref13_Prim) (R : Bool) (hh : diptychref13_prim p_1 = some R) : PC Tryd.prog 103 [.agg [.int .u8 p_1.Op, .str p_1.Kind, .str p_1.Name, .str p_1.New, .list 1 (p_1.Values.map PV.str), .list 1 (p_1.To.map PV.str)]] (.bool R) := by
  rw [diptychref13_prim] at hh
  refine start_diptychref13_prim rfl ?_
  refine awp_first fun K kk hK => ?_
  simp only [go_sem]
  refine hK _ _ fun nx => ?_; clear hK K; try clear kk
  refine awp_first fun K kk hK => ?_
  simp only [go_sem]
  refine hK _ _ fun nx => ?_; clear hK K; try clear kk
  refine awp_seq ?_
  refine awp_first fun K kk hK => ?_
  simp only [go_sem]
  refine hK _ _ fun nx => ?_; clear hK K; try clear kk
  refine awp_block ?_
  refine awp_seq ?_
  obtain ⟨e0, f0, hh⟩ := bind_ex hh
  refine awp_frag (fun s => ∃ v_2, v_2 = e0 ∧ ∃ (nx : Nat) (g1 : Nat), s = ⟨[(1, .box 1 g1 0), (3, .bool ((w64 ((p_1.Values.length : Int) + (p_1.To.length : Int))) == (0 : Int))), (13, .int .u8 p_1.Op), (14, .bool v_2)], [(1, g1, .var 55 [.int .u8 p_1.Op, .str p_1.Kind, .str p_1.Name, .str p_1.New, .list 1 (p_1.Values.map PV.str), .list 1 (p_1.To.map PV.str)])], nx⟩)
    (fun i s => False)
    (fun s => False) ?_ ?_ ?_ ?_
  · have hh := f0
    refine awp_first fun K kk hK => ?_
    simp only [go_sem]
    refine hK _ _ fun nx => ?_; clear hK K; try clear kk
    by_cases h1 : (p_1.Op == (114 : Int)) = true
    · rw [if_pos h1] at hh
      refine awp_true (by first | exact congrArg PV.bool h1 | rfl) ?_
      refine awp_skip ?_; refine nmx ?_
      refine fragN ?_
      refine cut_id ?_
      refine ⟨_, (Option.some.inj hh), ?_⟩
      first | exact ⟨_, _, rfl⟩ | (simp only [lens_Prim.pv_eq, lens_Lens.pv_eq, diptychref13_Prim.pv_eq, diptychref13_Lens.pv_eq, pvL, List.map_cons, List.map_nil, List.map_append, rune1]; exact ⟨_, _, rfl⟩) | (simp only [lens_Prim.pv_eq, lens_Lens.pv_eq, diptychref13_Prim.pv_eq, diptychref13_Lens.pv_eq, pvL, List.map_cons, List.map_nil, List.map_append, rune1, h1]; exact ⟨_, _, rfl⟩)
    · rw [if_neg h1] at hh
      replace h1 := Bool.eq_false_iff.mpr h1
      refine awp_false (by first | exact congrArg PV.bool h1 | rfl) ?_
      refine awp_first fun K kk hK => ?_
      simp only [go_sem]
      refine hK _ _ fun nx => ?_; clear hK K; try clear kk
      by_cases h2 : (p_1.Op == (119 : Int)) = true
      · rw [if_pos h2] at hh
        refine awp_true (by first | exact congrArg PV.bool h2 | rfl) ?_
        refine awp_skip ?_; refine nmx ?_
        refine fragN ?_
        refine cut_id ?_
        refine ⟨_, (Option.some.inj hh), ?_⟩
        first | exact ⟨_, _, rfl⟩ | (simp only [lens_Prim.pv_eq, lens_Lens.pv_eq, diptychref13_Prim.pv_eq, diptychref13_Lens.pv_eq, pvL, List.map_cons, List.map_nil, List.map_append, rune1]; exact ⟨_, _, rfl⟩) | (simp only [lens_Prim.pv_eq, lens_Lens.pv_eq, diptychref13_Prim.pv_eq, diptychref13_Lens.pv_eq, pvL, List.map_cons, List.map_nil, List.map_append, rune1, h1, h2]; exact ⟨_, _, rfl⟩)
      · rw [if_neg h2] at hh
        replace h2 := Bool.eq_false_iff.mpr h2
        refine awp_false (by first | exact congrArg PV.bool h2 | rfl) ?_
        refine awp_region fun K kk hK => ?_
        simp only [go_sem]
        refine hK _ _ fun nx => ?_; clear hK K; try clear kk
        refine nmx ?_
        refine fragN ?_
        refine cut_id ?_
        refine ⟨_, (Option.some.inj hh), ?_⟩
        first | exact ⟨_, _, rfl⟩ | (simp only [lens_Prim.pv_eq, lens_Lens.pv_eq, diptychref13_Prim.pv_eq, diptychref13_Lens.pv_eq, pvL, List.map_cons, List.map_nil, List.map_append, rune1]; exact ⟨_, _, rfl⟩) | (simp only [lens_Prim.pv_eq, lens_Lens.pv_eq, diptychref13_Prim.pv_eq, diptychref13_Lens.pv_eq, pvL, List.map_cons, List.map_nil, List.map_append, rune1, h1, h2]; exact ⟨_, _, rfl⟩)
  · rintro s ⟨v_2, rfl, nx, g1, rfl⟩
    try dsimp only at hh
    by_cases h3 : (v_2) = true
    · rw [if_pos h3] at hh
      refine awp_true (by first | exact congrArg PV.bool h3 | rfl) ?_
      by_cases h4 : ((w64 ((p_1.Values.length : Int) + (p_1.To.length : Int))) == (0 : Int)) = true
      · rw [if_pos h4] at hh
        obtain ⟨all_3, h5, hh⟩ := bind_ex hh
        refine awp_first fun K kk hK => ?_
        simp only [go_sem, h4, h4]
        (repeat refine sd ?_)
        refine step_call2 (diptychref13_all_ok _ _ _ h5) (by (try simp only [go_sem, h4, h4]) <;> exact wkl) (by rfl) (by rfl) ?_
        simp only [go_sem, h4, h4]
        (repeat refine sd ?_)
        refine hK _ _ fun nx => ?_; clear hK K; try clear kk
        refine awp_ret ?_; refine nmx ?_
        obtain hR := Option.some.inj hh
        subst hR
        exact ret_p2
      · rw [if_neg h4] at hh
        replace h4 := Bool.eq_false_iff.mpr h4
        refine awp_first fun K kk hK => ?_
        simp only [go_sem, h4, h4]
        (repeat refine sd ?_)
        refine hK _ _ fun nx => ?_; clear hK K; try clear kk
        refine awp_ret ?_; refine nmx ?_
        obtain hR := Option.some.inj hh
        subst hR
        exact ret_p2
    · rw [if_neg h3] at hh
      replace h3 := Bool.eq_false_iff.mpr h3
      refine awp_false (by first | exact congrArg PV.bool h3 | rfl) ?_
      refine awp_first fun K kk hK => ?_
      simp only [go_sem]
      refine hK _ _ fun nx => ?_; clear hK K; try clear kk
      by_cases h6 : (p_1.Op == (109 : Int)) = true
      · rw [if_pos h6] at hh
        refine awp_true (by first | exact congrArg PV.bool h6 | rfl) ?_
        by_cases h7 : ((w64 ((p_1.Values.length : Int) + (p_1.To.length : Int))) == (0 : Int)) = true
        · rw [if_pos h7] at hh
          obtain ⟨all_4, h8, hh⟩ := bind_ex hh
          refine awp_first fun K kk hK => ?_
          simp only [go_sem, h7, h7]
          (repeat refine sd ?_)
          refine step_call2 (diptychref13_all_ok _ _ _ h8) (by (try simp only [go_sem, h7, h7]) <;> exact wkl) (by rfl) (by rfl) ?_
          simp only [go_sem, h7, h7]
          (repeat refine sd ?_)
          refine hK _ _ fun nx => ?_; clear hK K; try clear kk
          refine awp_ret ?_; refine nmx ?_
          obtain hR := Option.some.inj hh
          subst hR
          exact ret_p2
        · rw [if_neg h7] at hh
          replace h7 := Bool.eq_false_iff.mpr h7
          refine awp_first fun K kk hK => ?_
          simp only [go_sem, h7, h7]
          (repeat refine sd ?_)
          refine hK _ _ fun nx => ?_; clear hK K; try clear kk
          refine awp_ret ?_; refine nmx ?_
          obtain hR := Option.some.inj hh
          subst hR
          exact ret_p2
      · rw [if_neg h6] at hh
        replace h6 := Bool.eq_false_iff.mpr h6
        refine awp_false (by first | exact congrArg PV.bool h6 | rfl) ?_
        refine awp_first fun K kk hK => ?_
        simp only [go_sem]
        refine hK _ _ fun nx => ?_; clear hK K; try clear kk
        by_cases h9 : (p_1.Op == (110 : Int)) = true
        · rw [if_pos h9] at hh
          refine awp_true (by first | exact congrArg PV.bool h9 | rfl) ?_
          by_cases h10 : ((w64 ((p_1.Values.length : Int) + (p_1.To.length : Int))) == (0 : Int)) = true
          · rw [if_pos h10] at hh
            obtain ⟨all_5, h11, hh⟩ := bind_ex hh
            refine awp_first fun K kk hK => ?_
            simp only [go_sem, h10, h10]
            (repeat refine sd ?_)
            refine step_call2 (diptychref13_all_ok _ _ _ h11) (by (try simp only [go_sem, h10, h10]) <;> exact wkl) (by rfl) (by rfl) ?_
            simp only [go_sem, h10, h10]
            (repeat refine sd ?_)
            refine hK _ _ fun nx => ?_; clear hK K; try clear kk
            refine awp_ret ?_; refine nmx ?_
            obtain hR := Option.some.inj hh
            subst hR
            exact ret_p2
          · rw [if_neg h10] at hh
            replace h10 := Bool.eq_false_iff.mpr h10
            refine awp_first fun K kk hK => ?_
            simp only [go_sem, h10, h10]
            (repeat refine sd ?_)
            refine hK _ _ fun nx => ?_; clear hK K; try clear kk
            refine awp_ret ?_; refine nmx ?_
            obtain hR := Option.some.inj hh
            subst hR
            exact ret_p2
        · rw [if_neg h9] at hh
          replace h9 := Bool.eq_false_iff.mpr h9
          refine awp_false (by first | exact congrArg PV.bool h9 | rfl) ?_
          refine awp_seq ?_
          obtain ⟨e1, f1, hh⟩ := bind_ex hh
          refine awp_frag (fun s => ∃ v_6, v_6 = e1 ∧ ∃ (nx : Nat) (g1 : Nat), s = ⟨[(1, .box 1 g1 0), (3, .bool ((w64 ((p_1.Values.length : Int) + (p_1.To.length : Int))) == (0 : Int))), (13, .int .u8 p_1.Op), (57, .bool v_6)], [(1, g1, .var 55 [.int .u8 p_1.Op, .str p_1.Kind, .str p_1.Name, .str p_1.New, .list 1 (p_1.Values.map PV.str), .list 1 (p_1.To.map PV.str)])], nx⟩)
            (fun i s => False)
            (fun s => False) ?_ ?_ ?_ ?_
          · have hh := f1
            refine awp_first fun K kk hK => ?_
            simp only [go_sem]
            refine hK _ _ fun nx => ?_; clear hK K; try clear kk
            by_cases h12 : (p_1.Op == (104 : Int)) = true
            · rw [if_pos h12] at hh
              refine awp_true (by first | exact congrArg PV.bool h12 | rfl) ?_
              refine awp_skip ?_; refine nmx ?_
              refine fragN ?_
              refine cut_id ?_
              refine ⟨_, (Option.some.inj hh), ?_⟩
              first | exact ⟨_, _, rfl⟩ | (simp only [lens_Prim.pv_eq, lens_Lens.pv_eq, diptychref13_Prim.pv_eq, diptychref13_Lens.pv_eq, pvL, List.map_cons, List.map_nil, List.map_append, rune1]; exact ⟨_, _, rfl⟩) | (simp only [lens_Prim.pv_eq, lens_Lens.pv_eq, diptychref13_Prim.pv_eq, diptychref13_Lens.pv_eq, pvL, List.map_cons, List.map_nil, List.map_append, rune1, h12, h3, h6, h9]; exact ⟨_, _, rfl⟩)
            · rw [if_neg h12] at hh
              replace h12 := Bool.eq_false_iff.mpr h12
              refine awp_false (by first | exact congrArg PV.bool h12 | rfl) ?_
              refine awp_region fun K kk hK => ?_
              simp only [go_sem]
              refine hK _ _ fun nx => ?_; clear hK K; try clear kk
              refine nmx ?_
              refine fragN ?_
              refine cut_id ?_
              refine ⟨_, (Option.some.inj hh), ?_⟩
              first | exact ⟨_, _, rfl⟩ | (simp only [lens_Prim.pv_eq, lens_Lens.pv_eq, diptychref13_Prim.pv_eq, diptychref13_Lens.pv_eq, pvL, List.map_cons, List.map_nil, List.map_append, rune1]; exact ⟨_, _, rfl⟩) | (simp only [lens_Prim.pv_eq, lens_Lens.pv_eq, diptychref13_Prim.pv_eq, diptychref13_Lens.pv_eq, pvL, List.map_cons, List.map_nil, List.map_append, rune1, h12, h3, h6, h9]; exact ⟨_, _, rfl⟩)
          · rintro s ⟨v_6, rfl, nx, g1, rfl⟩
            try dsimp only at hh
            by_cases h13 : (v_6) = true
            · rw [if_pos h13] at hh
              refine awp_true (by first | exact congrArg PV.bool h13 | rfl) ?_
              by_cases h14 : ((w64 ((p_1.Values.length : Int) + (p_1.To.length : Int))) == (0 : Int)) = true
              · rw [if_pos h14] at hh
                obtain ⟨all_7, h15, hh⟩ := bind_ex hh
                refine awp_first fun K kk hK => ?_
                simp only [go_sem, h14, h14]
                (repeat refine sd ?_)
                refine step_call2 (diptychref13_all_ok _ _ _ h15) (by (try simp only [go_sem, h14, h14]) <;> exact wkl) (by rfl) (by rfl) ?_
                simp only [go_sem, h14, h14]
                (repeat refine sd ?_)
                refine hK _ _ fun nx => ?_; clear hK K; try clear kk
                refine awp_ret ?_; refine nmx ?_
                obtain hR := Option.some.inj hh
                subst hR
                exact ret_p2
              · rw [if_neg h14] at hh
                replace h14 := Bool.eq_false_iff.mpr h14
                refine awp_first fun K kk hK => ?_
                simp only [go_sem, h14, h14]
                (repeat refine sd ?_)
                refine hK _ _ fun nx => ?_; clear hK K; try clear kk
                refine awp_ret ?_; refine nmx ?_
                obtain hR := Option.some.inj hh
                subst hR
                exact ret_p2
            · rw [if_neg h13] at hh
              replace h13 := Bool.eq_false_iff.mpr h13
              refine awp_false (by first | exact congrArg PV.bool h13 | rfl) ?_
              refine awp_seq ?_
              obtain ⟨e2, f2, hh⟩ := bind_ex hh
              refine awp_frag (fun s => ∃ v_8, v_8 = e2 ∧ ∃ (nx : Nat) (g1 : Nat), s = ⟨[(1, .box 1 g1 0), (13, .int .u8 p_1.Op), (72, .bool v_8)], [(1, g1, .var 55 [.int .u8 p_1.Op, .str p_1.Kind, .str p_1.Name, .str p_1.New, .list 1 (p_1.Values.map PV.str), .list 1 (p_1.To.map PV.str)])], nx⟩)
                (fun i s => False)
                (fun s => False) ?_ ?_ ?_ ?_
              · have hh := f2
                refine awp_first fun K kk hK => ?_
                simp only [go_sem]
                refine hK _ _ fun nx => ?_; clear hK K; try clear kk
                by_cases h16 : (p_1.Op == (97 : Int)) = true
                · rw [if_pos h16] at hh
                  refine awp_true (by first | exact congrArg PV.bool h16 | rfl) ?_
                  refine awp_skip ?_; refine nmx ?_
                  refine fragN ?_
                  refine cut_id ?_
                  refine ⟨_, (Option.some.inj hh), ?_⟩
                  first | exact ⟨_, _, rfl⟩ | (simp only [lens_Prim.pv_eq, lens_Lens.pv_eq, diptychref13_Prim.pv_eq, diptychref13_Lens.pv_eq, pvL, List.map_cons, List.map_nil, List.map_append, rune1]; exact ⟨_, _, rfl⟩) | (simp only [lens_Prim.pv_eq, lens_Lens.pv_eq, diptychref13_Prim.pv_eq, diptychref13_Lens.pv_eq, pvL, List.map_cons, List.map_nil, List.map_append, rune1, h13, h16, h3, h6, h9]; exact ⟨_, _, rfl⟩)
                · rw [if_neg h16] at hh
                  replace h16 := Bool.eq_false_iff.mpr h16
                  refine awp_false (by first | exact congrArg PV.bool h16 | rfl) ?_
                  refine awp_region fun K kk hK => ?_
                  simp only [go_sem]
                  refine hK _ _ fun nx => ?_; clear hK K; try clear kk
                  refine nmx ?_
                  refine fragN ?_
                  refine cut_id ?_
                  refine ⟨_, (Option.some.inj hh), ?_⟩
                  first | exact ⟨_, _, rfl⟩ | (simp only [lens_Prim.pv_eq, lens_Lens.pv_eq, diptychref13_Prim.pv_eq, diptychref13_Lens.pv_eq, pvL, List.map_cons, List.map_nil, List.map_append, rune1]; exact ⟨_, _, rfl⟩) | (simp only [lens_Prim.pv_eq, lens_Lens.pv_eq, diptychref13_Prim.pv_eq, diptychref13_Lens.pv_eq, pvL, List.map_cons, List.map_nil, List.map_append, rune1, h13, h16, h3, h6, h9]; exact ⟨_, _, rfl⟩)
              · rintro s ⟨v_8, rfl, nx, g1, rfl⟩
                try dsimp only at hh
                by_cases h17 : (v_8) = true
                · rw [if_pos h17] at hh
                  refine awp_true (by first | exact congrArg PV.bool h17 | rfl) ?_
                  by_cases h18 : ((p_1.To.length : Int) == (0 : Int)) = true
                  · rw [if_pos h18] at hh
                    obtain ⟨once_9, h19, hh⟩ := bind_ex hh
                    by_cases h20 : (once_9) = true
                    · rw [if_pos h20] at hh
                      obtain ⟨all_10, h21, hh⟩ := bind_ex hh
                      refine awp_first fun K kk hK => ?_
                      simp only [go_sem, h18, h18, h20, h20]
                      (repeat refine sd ?_)
                      refine step_call2 (diptychref13_once_ok _ _ _ h19) (by (try simp only [go_sem, h18, h18, h20, h20]) <;> exact wkl) (by rfl) (by rfl) ?_
                      simp only [go_sem, h18, h18, h20, h20]
                      (repeat refine sd ?_)
                      refine step_call2 (diptychref13_all_ok _ _ _ h21) (by (try simp only [go_sem, h18, h18, h20, h20]) <;> exact wkl) (by rfl) (by rfl) ?_
                      simp only [go_sem, h18, h18, h20, h20]
                      (repeat refine sd ?_)
                      refine hK _ _ fun nx => ?_; clear hK K; try clear kk
                      refine awp_ret ?_; refine nmx ?_
                      obtain hR := Option.some.inj hh
                      subst hR
                      exact ret_p2
                    · rw [if_neg h20] at hh
                      replace h20 := Bool.eq_false_iff.mpr h20
                      refine awp_first fun K kk hK => ?_
                      simp only [go_sem, h18, h18, h20, h20]
                      (repeat refine sd ?_)
                      refine step_call2 (diptychref13_once_ok _ _ _ h19) (by (try simp only [go_sem, h18, h18, h20, h20]) <;> exact wkl) (by rfl) (by rfl) ?_
                      simp only [go_sem, h18, h18, h20, h20]
                      (repeat refine sd ?_)
                      refine hK _ _ fun nx => ?_; clear hK K; try clear kk
                      refine awp_ret ?_; refine nmx ?_
                      obtain hR := Option.some.inj hh
                      subst hR
                      exact ret_p2
                  · rw [if_neg h18] at hh
                    replace h18 := Bool.eq_false_iff.mpr h18
                    refine awp_first fun K kk hK => ?_
                    simp only [go_sem, h18, h18]
                    (repeat refine sd ?_)
                    refine hK _ _ fun nx => ?_; clear hK K; try clear kk
                    refine awp_ret ?_; refine nmx ?_
                    obtain hR := Option.some.inj hh
                    subst hR
                    exact ret_p2
                · rw [if_neg h17] at hh
                  replace h17 := Bool.eq_false_iff.mpr h17
                  refine awp_false (by first | exact congrArg PV.bool h17 | rfl) ?_
                  refine awp_first fun K kk hK => ?_
                  simp only [go_sem]
                  refine hK _ _ fun nx => ?_; clear hK K; try clear kk
                  by_cases h22 : (p_1.Op == (116 : Int)) = true
                  · rw [if_pos h22] at hh
                    refine awp_true (by first | exact congrArg PV.bool h22 | rfl) ?_
                    obtain ⟨once_11, h23, hh⟩ := bind_ex hh
                    by_cases h24 : (once_11) = true
                    · rw [if_pos h24] at hh
                      obtain ⟨once_12, h25, hh⟩ := bind_ex hh
                      by_cases h26 : (once_12) = true
                      · rw [if_pos h26] at hh
                        by_cases h27 : ((p_1.Values.length : Int) == (p_1.To.length : Int)) = true
                        · rw [if_pos h27] at hh
                          obtain ⟨all_13, h28, hh⟩ := bind_ex hh
                          refine awp_first fun K kk hK => ?_
                          simp only [go_sem, h24, h24, h26, h26, h27, h27]
                          (repeat refine sd ?_)
                          refine step_call2 (diptychref13_once_ok _ _ _ h23) (by (try simp only [go_sem, h24, h24, h26, h26, h27, h27]) <;> exact wkl) (by rfl) (by rfl) ?_
                          simp only [go_sem, h24, h24, h26, h26, h27, h27]
                          (repeat refine sd ?_)
                          refine step_call2 (diptychref13_once_ok _ _ _ h25) (by (try simp only [go_sem, h24, h24, h26, h26, h27, h27]) <;> exact wkl) (by rfl) (by rfl) ?_
                          simp only [go_sem, h24, h24, h26, h26, h27, h27]
                          (repeat refine sd ?_)
                          refine step_call2 (diptychref13_all_ok _ _ _ h28) (by (try simp only [go_sem, h24, h24, h26, h26, h27, h27]) <;> exact wkl) (by rfl) (by rfl) ?_
                          simp only [go_sem, h24, h24, h26, h26, h27, h27]
                          (repeat refine sd ?_)
                          refine hK _ _ fun nx => ?_; clear hK K; try clear kk
                          refine awp_ret ?_; refine nmx ?_
                          obtain hR := Option.some.inj hh
                          subst hR
                          exact ret_p2
                        · rw [if_neg h27] at hh
                          replace h27 := Bool.eq_false_iff.mpr h27
                          refine awp_first fun K kk hK => ?_
                          simp only [go_sem, h24, h24, h26, h26, h27, h27]
                          (repeat refine sd ?_)
                          refine step_call2 (diptychref13_once_ok _ _ _ h23) (by (try simp only [go_sem, h24, h24, h26, h26, h27, h27]) <;> exact wkl) (by rfl) (by rfl) ?_
                          simp only [go_sem, h24, h24, h26, h26, h27, h27]
                          (repeat refine sd ?_)
                          refine step_call2 (diptychref13_once_ok _ _ _ h25) (by (try simp only [go_sem, h24, h24, h26, h26, h27, h27]) <;> exact wkl) (by rfl) (by rfl) ?_
                          simp only [go_sem, h24, h24, h26, h26, h27, h27]
                          (repeat refine sd ?_)
                          refine hK _ _ fun nx => ?_; clear hK K; try clear kk
                          refine awp_ret ?_; refine nmx ?_
                          obtain hR := Option.some.inj hh
                          subst hR
                          exact ret_p2
                      · rw [if_neg h26] at hh
                        replace h26 := Bool.eq_false_iff.mpr h26
                        refine awp_first fun K kk hK => ?_
                        simp only [go_sem, h24, h24, h26, h26]
                        (repeat refine sd ?_)
                        refine step_call2 (diptychref13_once_ok _ _ _ h23) (by (try simp only [go_sem, h24, h24, h26, h26]) <;> exact wkl) (by rfl) (by rfl) ?_
                        simp only [go_sem, h24, h24, h26, h26]
                        (repeat refine sd ?_)
                        refine step_call2 (diptychref13_once_ok _ _ _ h25) (by (try simp only [go_sem, h24, h24, h26, h26]) <;> exact wkl) (by rfl) (by rfl) ?_
                        simp only [go_sem, h24, h24, h26, h26]
                        (repeat refine sd ?_)
                        refine hK _ _ fun nx => ?_; clear hK K; try clear kk
                        refine awp_ret ?_; refine nmx ?_
                        obtain hR := Option.some.inj hh
                        subst hR
                        exact ret_p2
                    · rw [if_neg h24] at hh
                      replace h24 := Bool.eq_false_iff.mpr h24
                      refine awp_first fun K kk hK => ?_
                      simp only [go_sem, h24, h24]
                      (repeat refine sd ?_)
                      refine step_call2 (diptychref13_once_ok _ _ _ h23) (by (try simp only [go_sem, h24, h24]) <;> exact wkl) (by rfl) (by rfl) ?_
                      simp only [go_sem, h24, h24]
                      (repeat refine sd ?_)
                      refine hK _ _ fun nx => ?_; clear hK K; try clear kk
                      refine awp_ret ?_; refine nmx ?_
                      obtain hR := Option.some.inj hh
                      subst hR
                      exact ret_p2
                  · rw [if_neg h22] at hh
                    replace h22 := Bool.eq_false_iff.mpr h22
                    refine awp_false (by first | exact congrArg PV.bool h22 | rfl) ?_
                    refine awp_skip ?_; refine nmx ?_
                    refine awp_first fun K kk hK => ?_
                    simp only [go_sem]
                    refine hK _ _ fun nx => ?_; clear hK K; try clear kk
                    refine awp_ret ?_; refine nmx ?_
                    obtain hR := Option.some.inj hh
                    subst hR
                    exact ret_p2
              · intro i s h; exact h.elim
              · intro s h; exact h.elim
          · intro i s h; exact h.elim
          · intro s h; exact h.elim
  · intro i s h; exact h.elim
  · intro s h; exact h.elim
theorem diptychref13_formed_grp : ∀ kr : Nat, (∀ (l_1 : diptychref13_Lens) (R : Bool), diptychref13_formed_k kr l_1 = some R → PC Tryd.prog 75 [.agg [.int .u8 l_1.Prim.Op, .str l_1.Prim.Kind, .str l_1.Prim.Name, .str l_1.Prim.New, .list 1 (l_1.Prim.Values.map PV.str), .list 1 (l_1.Prim.To.map PV.str), .bool l_1.Turned, .list 8 (l_1.Kids.map diptychref13_Lens.pv)]] (.bool R)) := by
  intro kr
  induction kr with
  | zero => exact (by intro l_1 R hh; rw [diptychref13_formed_k] at hh; cases hh)
  | succ kr ih =>
    have ih_diptychref13_formed := ih
    clear ih
    intro l_1 R hh
    rw [diptychref13_formed_k] at hh
    refine start_diptychref13_formed rfl ?_
    refine awp_first fun K kk hK => ?_
    simp only [go_sem]
    refine hK _ _ fun nx => ?_; clear hK K; try clear kk
    refine awp_first fun K kk hK => ?_
    simp only [go_sem]
    refine hK _ _ fun nx => ?_; clear hK K; try clear kk
    refine awp_seq ?_
    refine awp_first fun K kk hK => ?_
    simp only [go_sem]
    refine hK _ _ fun nx => ?_; clear hK K; try clear kk
    by_cases h1 : (l_1.Prim.Op != (0 : Int)) = true
    · rw [if_pos h1] at hh
      refine awp_true (by first | exact congrArg PV.bool h1 | rfl) ?_
      obtain ⟨prim_2, h2, hh⟩ := bind_ex hh
      by_cases h3 : (prim_2) = true
      · rw [if_pos h3] at hh
        by_cases h4 : (!l_1.Turned) = true
        · rw [if_pos h4] at hh
          refine awp_first fun K kk hK => ?_
          simp only [go_sem, h3, h3, h4, h4]
          (repeat refine sd ?_)
          refine step_call2 (diptychref13_prim_ok _ _ h2) (by (try simp only [go_sem, h3, h3, h4, h4]) <;> exact wkl) (by rfl) (by rfl) ?_
          simp only [go_sem, h3, h3, h4, h4]
          (repeat refine sd ?_)
          refine hK _ _ fun nx => ?_; clear hK K; try clear kk
          refine awp_ret ?_; refine nmx ?_
          obtain hR := Option.some.inj hh
          subst hR
          exact ret_p2
        · rw [if_neg h4] at hh
          replace h4 := Bool.eq_false_iff.mpr h4
          refine awp_first fun K kk hK => ?_
          simp only [go_sem, h3, h3, h4, h4]
          (repeat refine sd ?_)
          refine step_call2 (diptychref13_prim_ok _ _ h2) (by (try simp only [go_sem, h3, h3, h4, h4]) <;> exact wkl) (by rfl) (by rfl) ?_
          simp only [go_sem, h3, h3, h4, h4]
          (repeat refine sd ?_)
          refine hK _ _ fun nx => ?_; clear hK K; try clear kk
          refine awp_ret ?_; refine nmx ?_
          obtain hR := Option.some.inj hh
          subst hR
          exact ret_p2
      · rw [if_neg h3] at hh
        replace h3 := Bool.eq_false_iff.mpr h3
        refine awp_first fun K kk hK => ?_
        simp only [go_sem, h3, h3]
        (repeat refine sd ?_)
        refine step_call2 (diptychref13_prim_ok _ _ h2) (by (try simp only [go_sem, h3, h3]) <;> exact wkl) (by rfl) (by rfl) ?_
        simp only [go_sem, h3, h3]
        (repeat refine sd ?_)
        refine hK _ _ fun nx => ?_; clear hK K; try clear kk
        refine awp_ret ?_; refine nmx ?_
        obtain hR := Option.some.inj hh
        subst hR
        exact ret_p2
    · rw [if_neg h1] at hh
      replace h1 := Bool.eq_false_iff.mpr h1
      refine awp_false (by first | exact congrArg PV.bool h1 | rfl) ?_
      refine awp_skip ?_; refine nmx ?_
      refine awp_seq ?_
      obtain ⟨e0, f0, hh⟩ := bind_ex hh
      refine awp_frag (fun s => .inr () = e0 ∧ ∃ (v_5 : Bool) (nx : Nat) (g1 : Nat), s = ⟨[(1, .box 1 g1 0), (53, .bool v_5)], [(1, g1, .var 58 [.int .u8 l_1.Prim.Op, .str l_1.Prim.Kind, .str l_1.Prim.Name, .str l_1.Prim.New, .list 1 (l_1.Prim.Values.map PV.str), .list 1 (l_1.Prim.To.map PV.str), .bool l_1.Turned, .list 8 (l_1.Kids.map diptychref13_Lens.pv)])], nx⟩)
        (fun i s => False)
        (fun s => ∃ res_4, .inl res_4 = e0 ∧ bodyR Tryd.prog [.tmp 2] (.bool res_4) [] .ret s) ?_ ?_ ?_ ?_
      · have hh := f0
        obtain ⟨all_3, h5, hh⟩ := bind_ex hh
        by_cases h6 : (!all_3) = true
        · rw [if_pos h6] at hh
          refine awp_first fun K kk hK => ?_
          simp only [go_sem, h6, h6]
          (repeat refine sd ?_)
          refine step_call2 (diptychref13_all_ok _ _ _ h5) (by (try simp only [go_sem, h6, h6]) <;> exact wkl) (by rfl) (by rfl) ?_
          simp only [go_sem, h6, h6]
          (repeat refine sd ?_)
          refine hK _ _ fun nx => ?_; clear hK K; try clear kk
          refine awp_true rfl ?_
          refine awp_first fun K kk hK => ?_
          simp only [go_sem]
          refine hK _ _ fun nx => ?_; clear hK K; try clear kk
          refine awp_ret ?_; refine nmx ?_
          refine fragR ⟨_, (Option.some.inj hh), ?_⟩
          exact ret_p2
        · rw [if_neg h6] at hh
          replace h6 := Bool.eq_false_iff.mpr h6
          by_cases h7 : (decide ((w64 ((l_1.Prim.Values.length : Int) + (l_1.Prim.To.length : Int))) > (0 : Int))) = true
          · rw [if_pos h7] at hh
            refine awp_first fun K kk hK => ?_
            simp only [go_sem, h6, h6, h7, of_decide_eq_true h7, h7, of_decide_eq_true h7]
            (repeat refine sd ?_)
            refine step_call2 (diptychref13_all_ok _ _ _ h5) (by (try simp only [go_sem, h6, h6, h7, of_decide_eq_true h7, h7, of_decide_eq_true h7]) <;> exact wkl) (by rfl) (by rfl) ?_
            simp only [go_sem, h6, h6, h7, of_decide_eq_true h7, h7, of_decide_eq_true h7]
            (repeat refine sd ?_)
            refine hK _ _ fun nx => ?_; clear hK K; try clear kk
            refine awp_true rfl ?_
            refine awp_first fun K kk hK => ?_
            simp only [go_sem]
            refine hK _ _ fun nx => ?_; clear hK K; try clear kk
            refine awp_ret ?_; refine nmx ?_
            refine fragR ⟨_, (Option.some.inj hh), ?_⟩
            exact ret_p2
          · rw [if_neg h7] at hh
            replace h7 := Bool.eq_false_iff.mpr h7
            by_cases h8 : (!l_1.Turned) = true
            · rw [if_pos h8] at hh
              refine awp_first fun K kk hK => ?_
              simp only [go_sem, h6, h6, h7, of_decide_eq_false h7, h8, h8, h7, of_decide_eq_false h7]
              (repeat refine sd ?_)
              refine step_call2 (diptychref13_all_ok _ _ _ h5) (by (try simp only [go_sem, h6, h6, h7, of_decide_eq_false h7, h8, h8, h7, of_decide_eq_false h7]) <;> exact wkl) (by rfl) (by rfl) ?_
              simp only [go_sem, h6, h6, h7, of_decide_eq_false h7, h8, h8, h7, of_decide_eq_false h7]
              (repeat refine sd ?_)
              refine hK _ _ fun nx => ?_; clear hK K; try clear kk
              by_cases h9 : ((l_1.Kids.length : Int) == (1 : Int)) = true
              · rw [if_pos h9] at hh
                refine awp_true (by first | exact congrArg PV.bool h9 | rfl) ?_
                refine awp_first fun K kk hK => ?_
                simp only [go_sem]
                refine hK _ _ fun nx => ?_; clear hK K; try clear kk
                refine awp_ret ?_; refine nmx ?_
                refine fragR ⟨_, (Option.some.inj hh), ?_⟩
                exact ret_p2
              · rw [if_neg h9] at hh
                replace h9 := Bool.eq_false_iff.mpr h9
                refine awp_false (by first | exact congrArg PV.bool h9 | rfl) ?_
                refine awp_skip ?_; refine nmx ?_
                refine fragN ?_
                refine cut_id ?_
                refine ⟨(Option.some.inj hh), ?_⟩
                first | exact ⟨_, _, _, rfl⟩ | (simp only [lens_Prim.pv_eq, lens_Lens.pv_eq, diptychref13_Prim.pv_eq, diptychref13_Lens.pv_eq, pvL, List.map_cons, List.map_nil, List.map_append, rune1]; exact ⟨_, _, _, rfl⟩) | (simp only [lens_Prim.pv_eq, lens_Lens.pv_eq, diptychref13_Prim.pv_eq, diptychref13_Lens.pv_eq, pvL, List.map_cons, List.map_nil, List.map_append, rune1, h1, h6, h7, h8, h9]; exact ⟨_, _, _, rfl⟩)
            · rw [if_neg h8] at hh
              replace h8 := Bool.eq_false_iff.mpr h8
              refine awp_first fun K kk hK => ?_
              simp only [go_sem, h6, h6, h7, of_decide_eq_false h7, h8, h8, h7, of_decide_eq_false h7]
              (repeat refine sd ?_)
              refine step_call2 (diptychref13_all_ok _ _ _ h5) (by (try simp only [go_sem, h6, h6, h7, of_decide_eq_false h7, h8, h8, h7, of_decide_eq_false h7]) <;> exact wkl) (by rfl) (by rfl) ?_
              simp only [go_sem, h6, h6, h7, of_decide_eq_false h7, h8, h8, h7, of_decide_eq_false h7]
              (repeat refine sd ?_)
              refine hK _ _ fun nx => ?_; clear hK K; try clear kk
              refine awp_false rfl ?_
              refine awp_skip ?_; refine nmx ?_
              refine fragN ?_
              refine cut_id ?_
              refine ⟨(Option.some.inj hh), ?_⟩
              first | exact ⟨_, _, _, rfl⟩ | (simp only [lens_Prim.pv_eq, lens_Lens.pv_eq, diptychref13_Prim.pv_eq, diptychref13_Lens.pv_eq, pvL, List.map_cons, List.map_nil, List.map_append, rune1]; exact ⟨_, _, _, rfl⟩) | (simp only [lens_Prim.pv_eq, lens_Lens.pv_eq, diptychref13_Prim.pv_eq, diptychref13_Lens.pv_eq, pvL, List.map_cons, List.map_nil, List.map_append, rune1, h1, h6, h7, h8]; exact ⟨_, _, _, rfl⟩)
      · rintro s ⟨rfl, v_5, nx, g1, rfl⟩
        try dsimp only at hh
        refine awp_seq ?_
        refine awp_first fun K kk hK => ?_
        simp only [go_sem]
        refine hK _ _ fun nx => ?_; clear hK K; try clear kk
        obtain ⟨e1, f1, hh⟩ := bind_ex hh
        obtain ⟨hlen1, f1⟩ := chk_some f1
        refine awp_fragE (CutTo (fun s => .inr () = e1 ∧ ∃ (i_14 : Int) (v_15 : Bool) (nx : Nat) (g1 : Nat), s = ⟨[(1, .box 1 g1 0), (4, .int .i64 i_14), (58, .bool v_15)], [(1, g1, .var 58 [.int .u8 l_1.Prim.Op, .str l_1.Prim.Kind, .str l_1.Prim.Name, .str l_1.Prim.New, .list 1 (l_1.Prim.Values.map PV.str), .list 1 (l_1.Prim.To.map PV.str), .bool l_1.Turned, .list 8 (l_1.Kids.map diptychref13_Lens.pv)])], nx⟩))
          (fun i s => False)
          (fun s => ∃ res_13, .inl res_13 = e1 ∧ bodyR Tryd.prog [.tmp 2] (.bool res_13) [] .ret s) ?_ ?_ ?_ ?_
        · refine awp_block ?_
          refine awp_loopJ fun I hI => ?_
          have key : ∀ (suf pre : List diptychref13_Lens) (i_8 : Int), l_1.Kids = pre ++ suf → i_8 = (pre.length : Int) → diptychref13_formed_l1 (diptychref13_formed_k kr) suf i_8 = some e1 → ∀ (nx : Nat) (g1 : Nat), I ⟨[(1, .box 1 g1 0), (4, .int .i64 i_8)], [(1, g1, .var 58 [.int .u8 l_1.Prim.Op, .str l_1.Prim.Kind, .str l_1.Prim.Name, .str l_1.Prim.New, .list 1 (l_1.Prim.Values.map PV.str), .list 1 (l_1.Prim.To.map PV.str), .bool l_1.Turned, .list 8 (l_1.Kids.map diptychref13_Lens.pv)])], nx⟩ := by
            intro suf
            induction suf with
            | nil =>
              intro pre i_8 hsplit hidx hh nx g1
              rw [diptychref13_formed_l1] at hh
              refine hI _ ?_
              have h22 := walk_nil hsplit hidx
              refine awp_seq ?_
              refine awp_first fun K kk hK => ?_
              simp only [go_sem]
              refine hK _ _ fun nx => ?_; clear hK K; try clear kk
              refine awp_false (by first | exact congrArg PV.bool h22 | rfl) ?_
              refine awp_exit ?_; refine nmx ?_
              refine fragN ?_
              refine cut_id ?_
              refine ⟨(Option.some.inj hh), ?_⟩
              first | exact ⟨_, _, _, _, rfl⟩ | (simp only [lens_Prim.pv_eq, lens_Lens.pv_eq, diptychref13_Prim.pv_eq, diptychref13_Lens.pv_eq, pvL, List.map_cons, List.map_nil, List.map_append, rune1]; exact ⟨_, _, _, _, rfl⟩) | (simp only [lens_Prim.pv_eq, lens_Lens.pv_eq, diptychref13_Prim.pv_eq, diptychref13_Lens.pv_eq, pvL, List.map_cons, List.map_nil, List.map_append, rune1, h1, h22]; exact ⟨_, _, _, _, rfl⟩)
            | cons y_11 suf ih =>
              intro pre i_8 hsplit hidx hh nx g1
              rw [diptychref13_formed_l1] at hh
              refine hI _ ?_
              obtain ⟨hl1a, hl1b, hl1d, hl1w, h22⟩ := walk_cons (f := diptychref13_Lens.pv) hsplit hidx hlen1
              refine awp_seq ?_
              refine awp_first fun K kk hK => ?_
              simp only [go_sem]
              refine hK _ _ fun nx => ?_; clear hK K; try clear kk
              refine awp_true (by first | exact congrArg PV.bool h22 | rfl) ?_
              refine awp_skip ?_; refine nmx ?_
              refine awp_seq ?_
              refine awp_block ?_
              refine awp_first fun K kk hK => ?_
              simp only [go_sem, hl1a, hl1b, hl1d, hl1w]
              refine hK _ _ fun nx => ?_; clear hK K; try clear kk
              obtain ⟨formed_12, h23, hh⟩ := bind_ex hh
              by_cases h24 : (!formed_12) = true
              · rw [if_pos h24] at hh
                refine awp_first fun K kk hK => ?_
                simp only [go_sem, h24, h24, hl1a, hl1b, hl1d, hl1w]
                (repeat refine sd ?_)
                refine step_call2 (ih_diptychref13_formed _ _ h23) (by (try simp only [go_sem, h24, h24, hl1a, hl1b, hl1d, hl1w]) <;> exact wkl) (by rfl) (by rfl) ?_
                simp only [go_sem, h24, h24, hl1a, hl1b, hl1d, hl1w]
                (repeat refine sd ?_)
                refine hK _ _ fun nx => ?_; clear hK K; try clear kk
                refine awp_true rfl ?_
                refine awp_first fun K kk hK => ?_
                simp only [go_sem, hl1a, hl1b, hl1d, hl1w]
                refine hK _ _ fun nx => ?_; clear hK K; try clear kk
                refine awp_ret ?_; refine nmx ?_
                refine fragR ⟨_, (Option.some.inj hh), ?_⟩
                exact ret_p2
              · rw [if_neg h24] at hh
                replace h24 := Bool.eq_false_iff.mpr h24
                by_cases h25 : (y_11.Prim.Op == (0 : Int)) = true
                · rw [if_pos h25] at hh
                  refine awp_first fun K kk hK => ?_
                  simp only [go_sem, h24, h25, h25, h24, hl1a, hl1b, hl1d, hl1w]
                  (repeat refine sd ?_)
                  refine step_call2 (ih_diptychref13_formed _ _ h23) (by (try simp only [go_sem, h24, h25, h25, h24, hl1a, hl1b, hl1d, hl1w]) <;> exact wkl) (by rfl) (by rfl) ?_
                  simp only [go_sem, h24, h25, h25, h24, hl1a, hl1b, hl1d, hl1w]
                  (repeat refine sd ?_)
                  refine hK _ _ fun nx => ?_; clear hK K; try clear kk
                  by_cases h26 : (!y_11.Turned) = true
                  · rw [if_pos h26] at hh
                    refine awp_true (by first | exact congrArg PV.bool h26 | rfl) ?_
                    refine awp_first fun K kk hK => ?_
                    simp only [go_sem, hl1a, hl1b, hl1d, hl1w]
                    refine hK _ _ fun nx => ?_; clear hK K; try clear kk
                    refine awp_ret ?_; refine nmx ?_
                    refine fragR ⟨_, (Option.some.inj hh), ?_⟩
                    exact ret_p2
                  · rw [if_neg h26] at hh
                    replace h26 := Bool.eq_false_iff.mpr h26
                    refine awp_false (by first | exact congrArg PV.bool h26 | rfl) ?_
                    refine awp_skip ?_; refine nmx ?_
                    refine awp_region fun K kk hK => ?_
                    simp only [go_sem, hl1a, hl1b, hl1d, hl1w]
                    refine hK _ _ fun nx => ?_; clear hK K; try clear kk
                    refine nmx ?_
                    have ih' := ih (pre ++ [y_11]) (i_8 + 1) (by rw [hsplit]; simp) (by simp [hidx]) hh nx
                    refine cut_id ?_
                    first | exact ih' _ | (simp only [lens_Prim.pv_eq, lens_Lens.pv_eq, diptychref13_Prim.pv_eq, diptychref13_Lens.pv_eq, pvL, List.map_cons, List.map_nil, List.map_append, rune1] at ih' ⊢; exact ih' _) | (simp only [lens_Prim.pv_eq, lens_Lens.pv_eq, diptychref13_Prim.pv_eq, diptychref13_Lens.pv_eq, pvL, List.map_cons, List.map_nil, List.map_append, rune1, h1, h22, h24, h25, h26] at ih' ⊢; exact ih' _)
                · rw [if_neg h25] at hh
                  replace h25 := Bool.eq_false_iff.mpr h25
                  refine awp_first fun K kk hK => ?_
                  simp only [go_sem, h24, h25, h25, h24, hl1a, hl1b, hl1d, hl1w]
                  (repeat refine sd ?_)
                  refine step_call2 (ih_diptychref13_formed _ _ h23) (by (try simp only [go_sem, h24, h25, h25, h24, hl1a, hl1b, hl1d, hl1w]) <;> exact wkl) (by rfl) (by rfl) ?_
                  simp only [go_sem, h24, h25, h25, h24, hl1a, hl1b, hl1d, hl1w]
                  (repeat refine sd ?_)
                  refine hK _ _ fun nx => ?_; clear hK K; try clear kk
                  refine awp_false rfl ?_
                  refine awp_skip ?_; refine nmx ?_
                  refine awp_region fun K kk hK => ?_
                  simp only [go_sem, hl1a, hl1b, hl1d, hl1w]
                  refine hK _ _ fun nx => ?_; clear hK K; try clear kk
                  refine nmx ?_
                  have ih' := ih (pre ++ [y_11]) (i_8 + 1) (by rw [hsplit]; simp) (by simp [hidx]) hh nx
                  refine cut_id ?_
                  first | exact ih' _ | (simp only [lens_Prim.pv_eq, lens_Lens.pv_eq, diptychref13_Prim.pv_eq, diptychref13_Lens.pv_eq, pvL, List.map_cons, List.map_nil, List.map_append, rune1] at ih' ⊢; exact ih' _) | (simp only [lens_Prim.pv_eq, lens_Lens.pv_eq, diptychref13_Prim.pv_eq, diptychref13_Lens.pv_eq, pvL, List.map_cons, List.map_nil, List.map_append, rune1, h1, h22, h24, h25] at ih' ⊢; exact ih' _)
          exact key l_1.Kids [] _ rfl rfl f1 _ _
        · rintro s ⟨t, hless, rfl, i_14, v_15, nx, g1, rfl⟩
          try dsimp only at hh
          refine nmy ?_
          first | (refine cut_less hless ?_; try refine cut_awp ?_) | refine frag_less hless ?_ | refine body_less hless ?_
          refine awp_first fun K kk hK => ?_
          simp only [go_sem]
          refine hK _ _ fun nx => ?_; clear hK K; try clear kk
          refine awp_ret ?_; refine nmx ?_
          obtain hR := Option.some.inj hh
          subst hR
          exact ret_p2
        · intro i s h; exact h.elim
        · rintro s ⟨res_13, rfl, hb⟩
          try dsimp only at hh
          obtain hR := Option.some.inj hh
          subst hR
          refine nmx ?_
          exact hb
      · intro i s h; exact h.elim
      · rintro s ⟨res_4, rfl, hb⟩
        try dsimp only at hh
        obtain hR := Option.some.inj hh
        subst hR
        refine nmx ?_
        exact hb
theorem diptychref13_formed_ok (l_1 : diptychref13_Lens) (R : Bool) (hh : diptychref13_formed l_1 = some R) : PC Tryd.prog 75 [.agg [.int .u8 l_1.Prim.Op, .str l_1.Prim.Kind, .str l_1.Prim.Name, .str l_1.Prim.New, .list 1 (l_1.Prim.Values.map PV.str), .list 1 (l_1.Prim.To.map PV.str), .bool l_1.Turned, .list 8 (l_1.Kids.map diptychref13_Lens.pv)]] (.bool R) := by
  rw [diptychref13_formed] at hh
  obtain ⟨kr, hh⟩ := lim_some hh
  exact (diptychref13_formed_grp kr) _ _ hh
theorem diptychref13_Right_ok (l_1 : diptychref13_Lens) (R : Bool) (hh : diptychref13_Right l_1 = some R) : PC Tryd.prog 30 [.agg [.int .u8 l_1.Prim.Op, .str l_1.Prim.Kind, .str l_1.Prim.Name, .str l_1.Prim.New, .list 1 (l_1.Prim.Values.map PV.str), .list 1 (l_1.Prim.To.map PV.str), .bool l_1.Turned, .list 8 (l_1.Kids.map diptychref13_Lens.pv)]] (.bool R) := by
  rw [diptychref13_Right] at hh
  refine start_diptychref13_Right rfl ?_
  refine awp_first fun K kk hK => ?_
  simp only [go_sem]
  refine hK _ _ fun nx => ?_; clear hK K; try clear kk
  obtain ⟨many_2, h1, hh⟩ := bind_ex hh
  by_cases h2 : (decide (many_2 ≤ (20 : Int))) = true
  · rw [if_pos h2] at hh
    obtain ⟨formed_3, h3, hh⟩ := bind_ex hh
    refine awp_first fun K kk hK => ?_
    simp only [go_sem, h2, of_decide_eq_true h2, h2, of_decide_eq_true h2]
    (repeat refine sd ?_)
    refine step_call2 (diptychref13_many_ok _ _ h1) (by (try simp only [go_sem, h2, of_decide_eq_true h2, h2, of_decide_eq_true h2]) <;> exact wkl) (by rfl) (by rfl) ?_
    simp only [go_sem, h2, of_decide_eq_true h2, h2, of_decide_eq_true h2]
    (repeat refine sd ?_)
    refine step_call2 (diptychref13_formed_ok _ _ h3) (by (try simp only [go_sem, h2, of_decide_eq_true h2, h2, of_decide_eq_true h2]) <;> exact wkl) (by rfl) (by rfl) ?_
    simp only [go_sem, h2, of_decide_eq_true h2, h2, of_decide_eq_true h2]
    (repeat refine sd ?_)
    refine hK _ _ fun nx => ?_; clear hK K; try clear kk
    refine awp_ret ?_; refine nmx ?_
    obtain hR := Option.some.inj hh
    subst hR
    exact ret_p2
  · rw [if_neg h2] at hh
    replace h2 := Bool.eq_false_iff.mpr h2
    refine awp_first fun K kk hK => ?_
    simp only [go_sem, h2, of_decide_eq_false h2, h2, of_decide_eq_false h2]
    (repeat refine sd ?_)
    refine step_call2 (diptychref13_many_ok _ _ h1) (by (try simp only [go_sem, h2, of_decide_eq_false h2, h2, of_decide_eq_false h2]) <;> exact wkl) (by rfl) (by rfl) ?_
    simp only [go_sem, h2, of_decide_eq_false h2, h2, of_decide_eq_false h2]
    (repeat refine sd ?_)
    refine hK _ _ fun nx => ?_; clear hK K; try clear kk
    refine awp_ret ?_; refine nmx ?_
    obtain hR := Option.some.inj hh
    subst hR
    exact ret_p2
theorem diptychref13_row_ok (l_1 : (List Str)) (sign_2 : Str) (R : Str) (hh : diptychref13_row l_1 sign_2 = some R) : PC Tryd.prog 98 [.list 1 (l_1.map PV.str), .str sign_2] (.str R) := by
  rw [diptychref13_row] at hh
  refine start_diptychref13_row rfl ?_
  refine awp_first fun K kk hK => ?_
  simp only [go_sem]
  refine hK _ _ fun nx => ?_; clear hK K; try clear kk
  refine awp_first fun K kk hK => ?_
  simp only [go_sem]
  refine hK _ _ fun nx => ?_; clear hK K; try clear kk
  refine awp_seq ?_
  refine awp_first fun K kk hK => ?_
  simp only [go_sem]
  refine hK _ _ fun nx => ?_; clear hK K; try clear kk
  obtain ⟨e0, f0, hh⟩ := bind_ex hh
  obtain ⟨hlen0, f0⟩ := chk_some f0
  refine awp_fragE (CutTo (fun s => ∃ s_10, s_10 = e0 ∧ ∃ (i_11 : Int) (v_12 : Bool) (nx : Nat), s = ⟨[(0, .list 1 (l_1.map PV.str)), (1, .str sign_2), (5, .str s_10), (6, .int .i64 i_11), (10, .bool v_12)], [], nx⟩))
    (fun i s => False)
    (fun s => False) ?_ ?_ ?_ ?_
  · refine awp_block ?_
    refine awp_loopJ fun I hI => ?_
    have key : ∀ (suf pre : List Str) (i_6 : Int) (s_5 : Str), l_1 = pre ++ suf → i_6 = (pre.length : Int) → diptychref13_row_l0 sign_2 suf i_6 s_5 = some e0 → ∀ (nx : Nat), I ⟨[(0, .list 1 (l_1.map PV.str)), (1, .str sign_2), (5, .str s_5), (6, .int .i64 i_6)], [], nx⟩ := by
      intro suf
      induction suf with
      | nil =>
        intro pre i_6 s_5 hsplit hidx hh nx
        rw [diptychref13_row_l0] at hh
        refine hI _ ?_
        have h15 := walk_nil hsplit hidx
        refine awp_seq ?_
        refine awp_first fun K kk hK => ?_
        simp only [go_sem]
        refine hK _ _ fun nx => ?_; clear hK K; try clear kk
        refine awp_false (by first | exact congrArg PV.bool h15 | rfl) ?_
        refine awp_exit ?_; refine nmx ?_
        refine fragN ?_
        refine cut_id ?_
        refine ⟨_, (Option.some.inj hh), ?_⟩
        first | exact ⟨_, _, _, rfl⟩ | (simp only [lens_Prim.pv_eq, lens_Lens.pv_eq, diptychref13_Prim.pv_eq, diptychref13_Lens.pv_eq, pvL, List.map_cons, List.map_nil, List.map_append, rune1]; exact ⟨_, _, _, rfl⟩) | (simp only [lens_Prim.pv_eq, lens_Lens.pv_eq, diptychref13_Prim.pv_eq, diptychref13_Lens.pv_eq, pvL, List.map_cons, List.map_nil, List.map_append, rune1, h15]; exact ⟨_, _, _, rfl⟩)
      | cons y_9 suf ih =>
        intro pre i_6 s_5 hsplit hidx hh nx
        rw [diptychref13_row_l0] at hh
        refine hI _ ?_
        obtain ⟨hl0a, hl0b, hl0d, hl0w, h15⟩ := walk_cons (f := PV.str) hsplit hidx hlen0
        refine awp_seq ?_
        refine awp_first fun K kk hK => ?_
        simp only [go_sem]
        refine hK _ _ fun nx => ?_; clear hK K; try clear kk
        refine awp_true (by first | exact congrArg PV.bool h15 | rfl) ?_
        refine awp_skip ?_; refine nmx ?_
        refine awp_seq ?_
        refine awp_block ?_
        refine awp_seq ?_
        refine awp_first fun K kk hK => ?_
        simp only [go_sem, hl0a, hl0b, hl0d, hl0w]
        refine hK _ _ fun nx => ?_; clear hK K; try clear kk
        by_cases h16 : (decide (i_6 > (0 : Int))) = true
        · rw [if_pos h16] at hh
          refine awp_true (by first | exact congrArg PV.bool h16 | rfl) ?_
          obtain ⟨h17, hh⟩ := chk_some hh
          refine awp_region fun K kk hK => ?_
          simp only [go_sem, h17, hl0a, hl0b, hl0d, hl0w]
          (repeat refine sd ?_)
          refine hK _ _ fun nx => ?_; clear hK K; try clear kk
          refine nmx ?_
          obtain ⟨h18, hh⟩ := chk_some hh
          refine awp_region fun K kk hK => ?_
          simp only [go_sem, h18, hl0a, hl0b, hl0d, hl0w]
          (repeat refine sd ?_)
          refine hK _ _ fun nx => ?_; clear hK K; try clear kk
          refine nmx ?_
          refine awp_region fun K kk hK => ?_
          simp only [go_sem, hl0a, hl0b, hl0d, hl0w]
          refine hK _ _ fun nx => ?_; clear hK K; try clear kk
          refine nmx ?_
          have ih' := ih (pre ++ [y_9]) (i_6 + 1) _ (by rw [hsplit]; simp) (by simp [hidx]) hh nx
          refine cut_id ?_
          first | exact ih' | (simp only [lens_Prim.pv_eq, lens_Lens.pv_eq, diptychref13_Prim.pv_eq, diptychref13_Lens.pv_eq, pvL, List.map_cons, List.map_nil, List.map_append, rune1] at ih' ⊢; exact ih') | (simp only [lens_Prim.pv_eq, lens_Lens.pv_eq, diptychref13_Prim.pv_eq, diptychref13_Lens.pv_eq, pvL, List.map_cons, List.map_nil, List.map_append, rune1, h15, h16] at ih' ⊢; exact ih')
        · rw [if_neg h16] at hh
          replace h16 := Bool.eq_false_iff.mpr h16
          refine awp_false (by first | exact congrArg PV.bool h16 | rfl) ?_
          refine awp_skip ?_; refine nmx ?_
          obtain ⟨h19, hh⟩ := chk_some hh
          refine awp_region fun K kk hK => ?_
          simp only [go_sem, h19, hl0a, hl0b, hl0d, hl0w]
          (repeat refine sd ?_)
          refine hK _ _ fun nx => ?_; clear hK K; try clear kk
          refine nmx ?_
          refine awp_region fun K kk hK => ?_
          simp only [go_sem, hl0a, hl0b, hl0d, hl0w]
          refine hK _ _ fun nx => ?_; clear hK K; try clear kk
          refine nmx ?_
          have ih' := ih (pre ++ [y_9]) (i_6 + 1) _ (by rw [hsplit]; simp) (by simp [hidx]) hh nx
          refine cut_id ?_
          first | exact ih' | (simp only [lens_Prim.pv_eq, lens_Lens.pv_eq, diptychref13_Prim.pv_eq, diptychref13_Lens.pv_eq, pvL, List.map_cons, List.map_nil, List.map_append, rune1] at ih' ⊢; exact ih') | (simp only [lens_Prim.pv_eq, lens_Lens.pv_eq, diptychref13_Prim.pv_eq, diptychref13_Lens.pv_eq, pvL, List.map_cons, List.map_nil, List.map_append, rune1, h15, h16] at ih' ⊢; exact ih')
    exact key l_1 [] _ _ rfl rfl f0 _
  · rintro s ⟨t, hless, s_10, rfl, i_11, v_12, nx, rfl⟩
    try dsimp only at hh
    refine nmy ?_
    first | (refine cut_less hless ?_; try refine cut_awp ?_) | refine frag_less hless ?_ | refine body_less hless ?_
    refine awp_first fun K kk hK => ?_
    simp only [go_sem]
    refine hK _ _ fun nx => ?_; clear hK K; try clear kk
    refine awp_ret ?_; refine nmx ?_
    obtain hR := Option.some.inj hh
    subst hR
    exact ret_p2
  · intro i s h; exact h.elim
  · intro s h; exact h.elim

end Go.Proofs.YtpjdafhmneiohaaDoor
