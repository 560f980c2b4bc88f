/- What the functions answer, the program answers (1). -/
import Derived.Test.YtpjdafhmneiohaaDoorAgC
import Derived.Test.YtpjdafhmneiohaaDoorAgF
import Derived.Test.YtpjdafhmneiohaaDoorAgK0
namespace Go.Proofs.YtpjdafhmneiohaaDoor
set_option linter.unusedSimpArgs false
set_option linter.unusedVariables false
open Go
set_option maxRecDepth 100000

theorem lens_Prim_right_ok (p_1 : lens_Prim) (R : Bool) (hh : lens_Prim_right p_1 = some R) : PC Tryd.prog 99 [.agg [.int .u8 p_1.Op, .str p_1.Kind, .str p_1.Name, .str p_1.New, .list 1 (p_1.Values.map PV.str), .list 1 (p_1.To.map PV.str)]] (.bool R) := by
  rw [lens_Prim_right] at hh
  refine start_lens_Prim_right rfl ?_
  refine awp_first fun K kk hK => ?_
  simp only [go_sem]
  refine hK _ _ fun nx => ?_; clear hK K; try clear kk
  refine awp_first fun K kk hK => ?_
  simp only [go_sem]
  refine hK _ _ fun nx => ?_; clear hK K; try clear kk
  obtain ⟨name_2, h1, hh⟩ := bind_ex hh
  obtain ⟨name_3, h2, hh⟩ := bind_ex hh
  obtain ⟨name_4, h3, hh⟩ := bind_ex hh
  refine awp_first fun K kk hK => ?_
  simp only [go_sem]
  refine step_call2 (node_Name_ok _ _ h1) (by (try simp only [go_sem]) <;> exact wkl) (by rfl) (by rfl) ?_
  simp only [go_sem]
  refine step_call2 (node_Name_ok _ _ h2) (by (try simp only [go_sem]) <;> exact wkl) (by rfl) (by rfl) ?_
  simp only [go_sem]
  refine step_call2 (node_Name_ok _ _ h3) (by (try simp only [go_sem]) <;> exact wkl) (by rfl) (by rfl) ?_
  simp only [go_sem]
  refine hK _ _ fun nx => ?_; clear hK K; try clear kk
  refine awp_seq ?_
  refine awp_first fun K kk hK => ?_
  simp only [go_sem]
  refine hK _ _ fun nx => ?_; clear hK K; try clear kk
  refine awp_block ?_
  refine awp_seq ?_
  refine awp_block ?_
  refine awp_seq ?_
  refine awp_block ?_
  refine awp_seq ?_
  refine awp_block ?_
  refine awp_seq ?_
  refine awp_block ?_
  refine awp_seq ?_
  refine awp_block ?_
  refine awp_seq ?_
  refine awp_block ?_
  refine awp_seq ?_
  refine awp_block ?_
  refine awp_seq ?_
  refine awp_seq ?_
  obtain ⟨e0, f0, hh⟩ := bind_ex hh
  refine awp_frag (fun s => .inr () = e0 ∧ ∃ (nx : Nat) (g1 : Nat), s = ⟨[(1, .box 1 g1 0), (3, .bool ((w64 ((p_1.Values.length : Int) + (p_1.To.length : Int))) == (0 : Int))), (4, .bool name_2), (5, .bool name_3), (6, .bool name_4), (25, .int .u8 p_1.Op), (26, .bool (p_1.Op == (117 : Int)))], [(1, g1, .var 50 [.int .u8 p_1.Op, .str p_1.Kind, .str p_1.Name, .str p_1.New, .list 1 (p_1.Values.map PV.str), .list 1 (p_1.To.map PV.str)])], nx⟩)
    (fun i s => (i = 1 ∧ .inl () = e0 ∧ ∃ (v_5 : Bool) (nx : Nat) (g1 : Nat), s = ⟨[(1, .box 1 g1 0), (3, .bool ((w64 ((p_1.Values.length : Int) + (p_1.To.length : Int))) == (0 : Int))), (4, .bool name_2), (5, .bool name_3), (6, .bool name_4), (25, .int .u8 p_1.Op), (26, .bool v_5)], [(1, g1, .var 50 [.int .u8 p_1.Op, .str p_1.Kind, .str p_1.Name, .str p_1.New, .list 1 (p_1.Values.map PV.str), .list 1 (p_1.To.map PV.str)])], nx⟩))
    (fun s => False) ?_ ?_ ?_ ?_
  · have hh := f0
    refine awp_seq ?_
    refine awp_first fun K kk hK => ?_
    simp only [go_sem]
    refine hK _ _ fun nx => ?_; clear hK K; try clear kk
    by_cases h4 : (p_1.Op == (114 : Int)) = true
    · rw [if_pos h4] at hh
      refine awp_true (by first | exact congrArg PV.bool h4 | rfl) ?_
      refine awp_skip ?_; refine nmx ?_
      refine awp_true (by first | exact congrArg PV.bool h4 | rfl) ?_
      refine awp_exit ?_; refine nmx ?_
      refine fragE ⟨rfl, (Option.some.inj hh), ?_⟩
      first | exact ⟨_, _, _, rfl⟩ | (simp only [lens_Prim.pv_eq, lens_Lens.pv_eq, diptychref13_Prim.pv_eq, diptychref13_Lens.pv_eq, pvL, List.map_cons, List.map_nil, List.map_append, rune1]; exact ⟨_, _, _, rfl⟩) | (simp only [lens_Prim.pv_eq, lens_Lens.pv_eq, diptychref13_Prim.pv_eq, diptychref13_Lens.pv_eq, pvL, List.map_cons, List.map_nil, List.map_append, rune1, h4]; exact ⟨_, _, _, rfl⟩)
    · rw [if_neg h4] at hh
      replace h4 := Bool.eq_false_iff.mpr h4
      refine awp_false (by first | exact congrArg PV.bool h4 | rfl) ?_
      refine awp_first fun K kk hK => ?_
      simp only [go_sem]
      refine hK _ _ fun nx => ?_; clear hK K; try clear kk
      by_cases h5 : (p_1.Op == (119 : Int)) = true
      · rw [if_pos h5] at hh
        refine awp_true (by first | exact congrArg PV.bool h5 | rfl) ?_
        refine awp_skip ?_; refine nmx ?_
        refine awp_true (by first | exact congrArg PV.bool h5 | rfl) ?_
        refine awp_exit ?_; refine nmx ?_
        refine fragE ⟨rfl, (Option.some.inj hh), ?_⟩
        first | exact ⟨_, _, _, rfl⟩ | (simp only [lens_Prim.pv_eq, lens_Lens.pv_eq, diptychref13_Prim.pv_eq, diptychref13_Lens.pv_eq, pvL, List.map_cons, List.map_nil, List.map_append, rune1]; exact ⟨_, _, _, rfl⟩) | (simp only [lens_Prim.pv_eq, lens_Lens.pv_eq, diptychref13_Prim.pv_eq, diptychref13_Lens.pv_eq, pvL, List.map_cons, List.map_nil, List.map_append, rune1, h4, h5]; exact ⟨_, _, _, rfl⟩)
      · rw [if_neg h5] at hh
        replace h5 := Bool.eq_false_iff.mpr h5
        refine awp_false (by first | exact congrArg PV.bool h5 | rfl) ?_
        refine awp_region fun K kk hK => ?_
        simp only [go_sem]
        refine hK _ _ fun nx => ?_; clear hK K; try clear kk
        refine nmx ?_
        by_cases h6 : (p_1.Op == (117 : Int)) = true
        · rw [if_pos h6] at hh
          refine awp_true (by first | exact congrArg PV.bool h6 | rfl) ?_
          refine awp_exit ?_; refine nmx ?_
          refine fragE ⟨rfl, (Option.some.inj hh), ?_⟩
          first | exact ⟨_, _, _, rfl⟩ | (simp only [lens_Prim.pv_eq, lens_Lens.pv_eq, diptychref13_Prim.pv_eq, diptychref13_Lens.pv_eq, pvL, List.map_cons, List.map_nil, List.map_append, rune1]; exact ⟨_, _, _, rfl⟩) | (simp only [lens_Prim.pv_eq, lens_Lens.pv_eq, diptychref13_Prim.pv_eq, diptychref13_Lens.pv_eq, pvL, List.map_cons, List.map_nil, List.map_append, rune1, h4, h5, h6]; exact ⟨_, _, _, rfl⟩)
        · rw [if_neg h6] at hh
          replace h6 := Bool.eq_false_iff.mpr h6
          refine awp_false (by first | exact congrArg PV.bool h6 | rfl) ?_
          refine awp_skip ?_; refine nmx ?_
          refine fragN ?_
          refine cut_id ?_
          refine ⟨(Option.some.inj hh), ?_⟩
          first | exact ⟨_, _, rfl⟩ | (simp only [lens_Prim.pv_eq, lens_Lens.pv_eq, diptychref13_Prim.pv_eq, diptychref13_Lens.pv_eq, pvL, List.map_cons, List.map_nil, List.map_append, rune1]; exact ⟨_, _, rfl⟩) | (simp only [lens_Prim.pv_eq, lens_Lens.pv_eq, diptychref13_Prim.pv_eq, diptychref13_Lens.pv_eq, pvL, List.map_cons, List.map_nil, List.map_append, rune1, h4, h5, h6]; exact ⟨_, _, rfl⟩)
  · rintro s ⟨rfl, nx, g1, rfl⟩
    try dsimp only at hh
    refine awp_seq ?_
    refine awp_first fun K kk hK => ?_
    simp only [go_sem]
    refine hK _ _ fun nx => ?_; clear hK K; try clear kk
    by_cases h10 : (p_1.Op == (109 : Int)) = true
    · rw [if_pos h10] at hh
      refine awp_true (by first | exact congrArg PV.bool h10 | rfl) ?_
      refine awp_exit ?_; refine nmx ?_
      refine awp_seq ?_
      by_cases h11 : ((w64 ((p_1.Values.length : Int) + (p_1.To.length : Int))) == (0 : Int)) = true
      · rw [if_pos h11] at hh
        by_cases h12 : (name_3) = true
        · rw [if_pos h12] at hh
          by_cases h13 : (name_4) = true
          · rw [if_pos h13] at hh
            refine awp_first fun K kk hK => ?_
            simp only [go_sem, h11, h11, h12, h12, h13, h13]
            (repeat refine sd ?_)
            refine hK _ _ fun nx => ?_; clear hK K; try clear kk
            refine awp_ret ?_; refine nmx ?_
            obtain hR := Option.some.inj hh
            subst hR
            exact ret_p2
          · rw [if_neg h13] at hh
            replace h13 := Bool.eq_false_iff.mpr h13
            refine awp_first fun K kk hK => ?_
            simp only [go_sem, h11, h11, h12, h12, h13, h13]
            (repeat refine sd ?_)
            refine hK _ _ fun nx => ?_; clear hK K; try clear kk
            refine awp_ret ?_; refine nmx ?_
            obtain hR := Option.some.inj hh
            subst hR
            exact ret_p2
        · rw [if_neg h12] at hh
          replace h12 := Bool.eq_false_iff.mpr h12
          refine awp_first fun K kk hK => ?_
          simp only [go_sem, h11, h11, h12, h12]
          (repeat refine sd ?_)
          refine hK _ _ fun nx => ?_; clear hK K; try clear kk
          refine awp_ret ?_; refine nmx ?_
          obtain hR := Option.some.inj hh
          subst hR
          exact ret_p2
      · rw [if_neg h11] at hh
        replace h11 := Bool.eq_false_iff.mpr h11
        refine awp_first fun K kk hK => ?_
        simp only [go_sem, h11, h11]
        (repeat refine sd ?_)
        refine hK _ _ fun nx => ?_; clear hK K; try clear kk
        refine awp_ret ?_; refine nmx ?_
        obtain hR := Option.some.inj hh
        subst hR
        exact ret_p2
    · rw [if_neg h10] at hh
      replace h10 := Bool.eq_false_iff.mpr h10
      refine awp_false (by first | exact congrArg PV.bool h10 | rfl) ?_
      refine awp_skip ?_; refine nmx ?_
      refine awp_seq ?_
      refine awp_first fun K kk hK => ?_
      simp only [go_sem]
      refine hK _ _ fun nx => ?_; clear hK K; try clear kk
      by_cases h14 : (p_1.Op == (110 : Int)) = true
      · rw [if_pos h14] at hh
        refine awp_true (by first | exact congrArg PV.bool h14 | rfl) ?_
        refine awp_exit ?_; refine nmx ?_
        refine awp_seq ?_
        by_cases h15 : ((w64 ((p_1.Values.length : Int) + (p_1.To.length : Int))) == (0 : Int)) = true
        · rw [if_pos h15] at hh
          by_cases h16 : (name_2) = true
          · rw [if_pos h16] at hh
            by_cases h17 : (name_3) = true
            · rw [if_pos h17] at hh
              refine awp_first fun K kk hK => ?_
              simp only [go_sem, h15, h15, h16, h16, h17, h17]
              (repeat refine sd ?_)
              refine hK _ _ fun nx => ?_; clear hK K; try clear kk
              refine awp_ret ?_; refine nmx ?_
              obtain hR := Option.some.inj hh
              subst hR
              exact ret_p2
            · rw [if_neg h17] at hh
              replace h17 := Bool.eq_false_iff.mpr h17
              refine awp_first fun K kk hK => ?_
              simp only [go_sem, h15, h15, h16, h16, h17, h17]
              (repeat refine sd ?_)
              refine hK _ _ fun nx => ?_; clear hK K; try clear kk
              refine awp_ret ?_; refine nmx ?_
              obtain hR := Option.some.inj hh
              subst hR
              exact ret_p2
          · rw [if_neg h16] at hh
            replace h16 := Bool.eq_false_iff.mpr h16
            refine awp_first fun K kk hK => ?_
            simp only [go_sem, h15, h15, h16, h16]
            (repeat refine sd ?_)
            refine hK _ _ fun nx => ?_; clear hK K; try clear kk
            refine awp_ret ?_; refine nmx ?_
            obtain hR := Option.some.inj hh
            subst hR
            exact ret_p2
        · rw [if_neg h15] at hh
          replace h15 := Bool.eq_false_iff.mpr h15
          refine awp_first fun K kk hK => ?_
          simp only [go_sem, h15, h15]
          (repeat refine sd ?_)
          refine hK _ _ fun nx => ?_; clear hK K; try clear kk
          refine awp_ret ?_; refine nmx ?_
          obtain hR := Option.some.inj hh
          subst hR
          exact ret_p2
      · rw [if_neg h14] at hh
        replace h14 := Bool.eq_false_iff.mpr h14
        refine awp_false (by first | exact congrArg PV.bool h14 | rfl) ?_
        refine awp_skip ?_; refine nmx ?_
        refine awp_seq ?_
        refine awp_first fun K kk hK => ?_
        simp only [go_sem]
        refine hK _ _ fun nx => ?_; clear hK K; try clear kk
        by_cases h18 : (p_1.Op == (116 : Int)) = true
        · rw [if_pos h18] at hh
          refine awp_true (by first | exact congrArg PV.bool h18 | rfl) ?_
          refine awp_exit ?_; refine nmx ?_
          obtain ⟨values_6, h19, hh⟩ := bind_ex hh
          by_cases h20 : (values_6) = true
          · rw [if_pos h20] at hh
            obtain ⟨values_7, h21, hh⟩ := bind_ex hh
            by_cases h22 : (values_7) = true
            · rw [if_pos h22] at hh
              refine awp_first fun K kk hK => ?_
              simp only [go_sem, h20, h20, h22, h22]
              (repeat refine sd ?_)
              refine step_call2 (lens_values_ok _ _ _ h19) (by (try simp only [go_sem, h20, h20, h22, h22]) <;> exact wkl) (by rfl) (by rfl) ?_
              simp only [go_sem, h20, h20, h22, h22]
              (repeat refine sd ?_)
              refine step_call2 (lens_values_ok _ _ _ h21) (by (try simp only [go_sem, h20, h20, h22, h22]) <;> exact wkl) (by rfl) (by rfl) ?_
              simp only [go_sem, h20, h20, h22, h22]
              (repeat refine sd ?_)
              refine hK _ _ fun nx => ?_; clear hK K; try clear kk
              refine awp_exit ?_; refine nmx ?_
              by_cases h23 : ((p_1.Values.length : Int) == (p_1.To.length : Int)) = true
              · rw [if_pos h23] at hh
                by_cases h24 : (name_2) = true
                · rw [if_pos h24] at hh
                  by_cases h25 : (name_3) = true
                  · rw [if_pos h25] at hh
                    refine awp_first fun K kk hK => ?_
                    simp only [go_sem, h23, h23, h24, h24, h25, h25]
                    (repeat refine sd ?_)
                    refine hK _ _ fun nx => ?_; clear hK K; try clear kk
                    refine awp_ret ?_; refine nmx ?_
                    obtain hR := Option.some.inj hh
                    subst hR
                    exact ret_p2
                  · rw [if_neg h25] at hh
                    replace h25 := Bool.eq_false_iff.mpr h25
                    refine awp_first fun K kk hK => ?_
                    simp only [go_sem, h23, h23, h24, h24, h25, h25]
                    (repeat refine sd ?_)
                    refine hK _ _ fun nx => ?_; clear hK K; try clear kk
                    refine awp_ret ?_; refine nmx ?_
                    obtain hR := Option.some.inj hh
                    subst hR
                    exact ret_p2
                · rw [if_neg h24] at hh
                  replace h24 := Bool.eq_false_iff.mpr h24
                  refine awp_first fun K kk hK => ?_
                  simp only [go_sem, h23, h23, h24, h24]
                  (repeat refine sd ?_)
                  refine hK _ _ fun nx => ?_; clear hK K; try clear kk
                  refine awp_ret ?_; refine nmx ?_
                  obtain hR := Option.some.inj hh
                  subst hR
                  exact ret_p2
              · rw [if_neg h23] at hh
                replace h23 := Bool.eq_false_iff.mpr h23
                refine awp_first fun K kk hK => ?_
                simp only [go_sem, h23, h23]
                (repeat refine sd ?_)
                refine hK _ _ fun nx => ?_; clear hK K; try clear kk
                refine awp_ret ?_; refine nmx ?_
                obtain hR := Option.some.inj hh
                subst hR
                exact ret_p2
            · rw [if_neg h22] at hh
              replace h22 := Bool.eq_false_iff.mpr h22
              refine awp_first fun K kk hK => ?_
              simp only [go_sem, h20, h20, h22, h22]
              (repeat refine sd ?_)
              refine step_call2 (lens_values_ok _ _ _ h19) (by (try simp only [go_sem, h20, h20, h22, h22]) <;> exact wkl) (by rfl) (by rfl) ?_
              simp only [go_sem, h20, h20, h22, h22]
              (repeat refine sd ?_)
              refine step_call2 (lens_values_ok _ _ _ h21) (by (try simp only [go_sem, h20, h20, h22, h22]) <;> exact wkl) (by rfl) (by rfl) ?_
              simp only [go_sem, h20, h20, h22, h22]
              (repeat refine sd ?_)
              refine hK _ _ fun nx => ?_; clear hK K; try clear kk
              refine awp_exit ?_; refine nmx ?_
              refine awp_first fun K kk hK => ?_
              simp only [go_sem]
              refine hK _ _ fun nx => ?_; clear hK K; try clear kk
              refine awp_ret ?_; refine nmx ?_
              obtain hR := Option.some.inj hh
              subst hR
              exact ret_p2
          · rw [if_neg h20] at hh
            replace h20 := Bool.eq_false_iff.mpr h20
            refine awp_first fun K kk hK => ?_
            simp only [go_sem, h20, h20]
            (repeat refine sd ?_)
            refine step_call2 (lens_values_ok _ _ _ h19) (by (try simp only [go_sem, h20, h20]) <;> exact wkl) (by rfl) (by rfl) ?_
            simp only [go_sem, h20, h20]
            (repeat refine sd ?_)
            refine hK _ _ fun nx => ?_; clear hK K; try clear kk
            refine awp_exit ?_; refine nmx ?_
            refine awp_first fun K kk hK => ?_
            simp only [go_sem]
            refine hK _ _ fun nx => ?_; clear hK K; try clear kk
            refine awp_ret ?_; refine nmx ?_
            obtain hR := Option.some.inj hh
            subst hR
            exact ret_p2
        · rw [if_neg h18] at hh
          replace h18 := Bool.eq_false_iff.mpr h18
          refine awp_false (by first | exact congrArg PV.bool h18 | rfl) ?_
          refine awp_skip ?_; refine nmx ?_
          refine awp_seq ?_
          obtain ⟨e1, f1, hh⟩ := bind_ex hh
          refine awp_frag (fun s => .inr () = e1 ∧ ∃ (nx : Nat) (g1 : Nat), s = ⟨[(1, .box 1 g1 0), (3, .bool ((w64 ((p_1.Values.length : Int) + (p_1.To.length : Int))) == (0 : Int))), (4, .bool name_2), (5, .bool name_3), (25, .int .u8 p_1.Op), (36, .bool (p_1.Op == (100 : Int)))], [(1, g1, .var 50 [.int .u8 p_1.Op, .str p_1.Kind, .str p_1.Name, .str p_1.New, .list 1 (p_1.Values.map PV.str), .list 1 (p_1.To.map PV.str)])], nx⟩)
            (fun i s => (i = 5 ∧ .inl () = e1 ∧ ∃ (v_8 : Bool) (nx : Nat) (g1 : Nat), s = ⟨[(1, .box 1 g1 0), (3, .bool ((w64 ((p_1.Values.length : Int) + (p_1.To.length : Int))) == (0 : Int))), (4, .bool name_2), (5, .bool name_3), (25, .int .u8 p_1.Op), (36, .bool v_8)], [(1, g1, .var 50 [.int .u8 p_1.Op, .str p_1.Kind, .str p_1.Name, .str p_1.New, .list 1 (p_1.Values.map PV.str), .list 1 (p_1.To.map PV.str)])], nx⟩))
            (fun s => False) ?_ ?_ ?_ ?_
          · have hh := f1
            refine awp_seq ?_
            refine awp_first fun K kk hK => ?_
            simp only [go_sem]
            refine hK _ _ fun nx => ?_; clear hK K; try clear kk
            by_cases h26 : (p_1.Op == (97 : Int)) = true
            · rw [if_pos h26] at hh
              refine awp_true (by first | exact congrArg PV.bool h26 | rfl) ?_
              refine awp_skip ?_; refine nmx ?_
              refine awp_true (by first | exact congrArg PV.bool h26 | rfl) ?_
              refine awp_exit ?_; refine nmx ?_
              refine fragE ⟨rfl, (Option.some.inj hh), ?_⟩
              first | exact ⟨_, _, _, rfl⟩ | (simp only [lens_Prim.pv_eq, lens_Lens.pv_eq, diptychref13_Prim.pv_eq, diptychref13_Lens.pv_eq, pvL, List.map_cons, List.map_nil, List.map_append, rune1]; exact ⟨_, _, _, rfl⟩) | (simp only [lens_Prim.pv_eq, lens_Lens.pv_eq, diptychref13_Prim.pv_eq, diptychref13_Lens.pv_eq, pvL, List.map_cons, List.map_nil, List.map_append, rune1, h10, h14, h18, h26]; exact ⟨_, _, _, rfl⟩)
            · rw [if_neg h26] at hh
              replace h26 := Bool.eq_false_iff.mpr h26
              refine awp_false (by first | exact congrArg PV.bool h26 | rfl) ?_
              refine awp_region fun K kk hK => ?_
              simp only [go_sem]
              refine hK _ _ fun nx => ?_; clear hK K; try clear kk
              refine nmx ?_
              by_cases h27 : (p_1.Op == (100 : Int)) = true
              · rw [if_pos h27] at hh
                refine awp_true (by first | exact congrArg PV.bool h27 | rfl) ?_
                refine awp_exit ?_; refine nmx ?_
                refine fragE ⟨rfl, (Option.some.inj hh), ?_⟩
                first | exact ⟨_, _, _, rfl⟩ | (simp only [lens_Prim.pv_eq, lens_Lens.pv_eq, diptychref13_Prim.pv_eq, diptychref13_Lens.pv_eq, pvL, List.map_cons, List.map_nil, List.map_append, rune1]; exact ⟨_, _, _, rfl⟩) | (simp only [lens_Prim.pv_eq, lens_Lens.pv_eq, diptychref13_Prim.pv_eq, diptychref13_Lens.pv_eq, pvL, List.map_cons, List.map_nil, List.map_append, rune1, h10, h14, h18, h26, h27]; exact ⟨_, _, _, rfl⟩)
              · rw [if_neg h27] at hh
                replace h27 := Bool.eq_false_iff.mpr h27
                refine awp_false (by first | exact congrArg PV.bool h27 | rfl) ?_
                refine awp_skip ?_; refine nmx ?_
                refine fragN ?_
                refine cut_id ?_
                refine ⟨(Option.some.inj hh), ?_⟩
                first | exact ⟨_, _, rfl⟩ | (simp only [lens_Prim.pv_eq, lens_Lens.pv_eq, diptychref13_Prim.pv_eq, diptychref13_Lens.pv_eq, pvL, List.map_cons, List.map_nil, List.map_append, rune1]; exact ⟨_, _, rfl⟩) | (simp only [lens_Prim.pv_eq, lens_Lens.pv_eq, diptychref13_Prim.pv_eq, diptychref13_Lens.pv_eq, pvL, List.map_cons, List.map_nil, List.map_append, rune1, h10, h14, h18, h26, h27]; exact ⟨_, _, rfl⟩)
          · rintro s ⟨rfl, nx, g1, rfl⟩
            try dsimp only at hh
            refine awp_seq ?_
            refine awp_first fun K kk hK => ?_
            simp only [go_sem]
            refine hK _ _ fun nx => ?_; clear hK K; try clear kk
            by_cases h33 : (p_1.Op == (104 : Int)) = true
            · rw [if_pos h33] at hh
              refine awp_true (by first | exact congrArg PV.bool h33 | rfl) ?_
              refine awp_skip ?_; refine nmx ?_
              refine awp_true (by first | exact congrArg PV.bool h33 | rfl) ?_
              refine awp_exit ?_; refine nmx ?_
              refine awp_exit ?_; refine nmx ?_
              by_cases h34 : ((w64 ((p_1.Values.length : Int) + (p_1.To.length : Int))) == (0 : Int)) = true
              · rw [if_pos h34] at hh
                by_cases h35 : (name_2) = true
                · rw [if_pos h35] at hh
                  by_cases h36 : (name_3) = true
                  · rw [if_pos h36] at hh
                    refine awp_first fun K kk hK => ?_
                    simp only [go_sem, h34, h34, h35, h35, h36, h36]
                    (repeat refine sd ?_)
                    refine hK _ _ fun nx => ?_; clear hK K; try clear kk
                    refine awp_ret ?_; refine nmx ?_
                    obtain hR := Option.some.inj hh
                    subst hR
                    exact ret_p2
                  · rw [if_neg h36] at hh
                    replace h36 := Bool.eq_false_iff.mpr h36
                    refine awp_first fun K kk hK => ?_
                    simp only [go_sem, h34, h34, h35, h35, h36, h36]
                    (repeat refine sd ?_)
                    refine hK _ _ fun nx => ?_; clear hK K; try clear kk
                    refine awp_ret ?_; refine nmx ?_
                    obtain hR := Option.some.inj hh
                    subst hR
                    exact ret_p2
                · rw [if_neg h35] at hh
                  replace h35 := Bool.eq_false_iff.mpr h35
                  refine awp_first fun K kk hK => ?_
                  simp only [go_sem, h34, h34, h35, h35]
                  (repeat refine sd ?_)
                  refine hK _ _ fun nx => ?_; clear hK K; try clear kk
                  refine awp_ret ?_; refine nmx ?_
                  obtain hR := Option.some.inj hh
                  subst hR
                  exact ret_p2
              · rw [if_neg h34] at hh
                replace h34 := Bool.eq_false_iff.mpr h34
                refine awp_first fun K kk hK => ?_
                simp only [go_sem, h34, h34]
                (repeat refine sd ?_)
                refine hK _ _ fun nx => ?_; clear hK K; try clear kk
                refine awp_ret ?_; refine nmx ?_
                obtain hR := Option.some.inj hh
                subst hR
                exact ret_p2
            · rw [if_neg h33] at hh
              replace h33 := Bool.eq_false_iff.mpr h33
              refine awp_false (by first | exact congrArg PV.bool h33 | rfl) ?_
              refine awp_region fun K kk hK => ?_
              simp only [go_sem]
              refine hK _ _ fun nx => ?_; clear hK K; try clear kk
              refine nmx ?_
              by_cases h37 : (p_1.Op == (115 : Int)) = true
              · rw [if_pos h37] at hh
                refine awp_true (by first | exact congrArg PV.bool h37 | rfl) ?_
                refine awp_exit ?_; refine nmx ?_
                refine awp_exit ?_; refine nmx ?_
                by_cases h38 : ((w64 ((p_1.Values.length : Int) + (p_1.To.length : Int))) == (0 : Int)) = true
                · rw [if_pos h38] at hh
                  by_cases h39 : (name_2) = true
                  · rw [if_pos h39] at hh
                    by_cases h40 : (name_3) = true
                    · rw [if_pos h40] at hh
                      refine awp_first fun K kk hK => ?_
                      simp only [go_sem, h38, h38, h39, h39, h40, h40]
                      (repeat refine sd ?_)
                      refine hK _ _ fun nx => ?_; clear hK K; try clear kk
                      refine awp_ret ?_; refine nmx ?_
                      obtain hR := Option.some.inj hh
                      subst hR
                      exact ret_p2
                    · rw [if_neg h40] at hh
                      replace h40 := Bool.eq_false_iff.mpr h40
                      refine awp_first fun K kk hK => ?_
                      simp only [go_sem, h38, h38, h39, h39, h40, h40]
                      (repeat refine sd ?_)
                      refine hK _ _ fun nx => ?_; clear hK K; try clear kk
                      refine awp_ret ?_; refine nmx ?_
                      obtain hR := Option.some.inj hh
                      subst hR
                      exact ret_p2
                  · rw [if_neg h39] at hh
                    replace h39 := Bool.eq_false_iff.mpr h39
                    refine awp_first fun K kk hK => ?_
                    simp only [go_sem, h38, h38, h39, h39]
                    (repeat refine sd ?_)
                    refine hK _ _ fun nx => ?_; clear hK K; try clear kk
                    refine awp_ret ?_; refine nmx ?_
                    obtain hR := Option.some.inj hh
                    subst hR
                    exact ret_p2
                · rw [if_neg h38] at hh
                  replace h38 := Bool.eq_false_iff.mpr h38
                  refine awp_first fun K kk hK => ?_
                  simp only [go_sem, h38, h38]
                  (repeat refine sd ?_)
                  refine hK _ _ fun nx => ?_; clear hK K; try clear kk
                  refine awp_ret ?_; refine nmx ?_
                  obtain hR := Option.some.inj hh
                  subst hR
                  exact ret_p2
              · rw [if_neg h37] at hh
                replace h37 := Bool.eq_false_iff.mpr h37
                refine awp_false (by first | exact congrArg PV.bool h37 | rfl) ?_
                refine awp_skip ?_; refine nmx ?_
                refine awp_exit ?_; refine nmx ?_
                refine awp_seq ?_
                refine awp_first fun K kk hK => ?_
                simp only [go_sem]
                refine hK _ _ fun nx => ?_; clear hK K; try clear kk
                refine awp_ret ?_; refine nmx ?_
                obtain hR := Option.some.inj hh
                subst hR
                exact ret_p2
          · intro i s h
            obtain ⟨rfl, rfl, v_8, nx, g1, rfl⟩ := h
            try dsimp only at hh
            refine nmx ?_
            obtain ⟨values_9, h28, hh⟩ := bind_ex hh
            by_cases h29 : (values_9) = true
            · rw [if_pos h29] at hh
              refine awp_region fun K kk hK => ?_
              simp only [go_sem, h29, h29]
              (repeat refine sd ?_)
              refine step_call2 (lens_values_ok _ _ _ h28) (by (try simp only [go_sem, h29, h29]) <;> exact wkl) (by rfl) (by rfl) ?_
              simp only [go_sem, h29, h29]
              (repeat refine sd ?_)
              refine hK _ _ fun nx => ?_; clear hK K; try clear kk
              refine nmx ?_
              refine awp_exit ?_; refine nmx ?_
              by_cases h30 : ((p_1.To.length : Int) == (0 : Int)) = true
              · rw [if_pos h30] at hh
                by_cases h31 : (name_2) = true
                · rw [if_pos h31] at hh
                  by_cases h32 : (name_3) = true
                  · rw [if_pos h32] at hh
                    refine awp_first fun K kk hK => ?_
                    simp only [go_sem, h30, h30, h31, h31, h32, h32]
                    (repeat refine sd ?_)
                    refine hK _ _ fun nx => ?_; clear hK K; try clear kk
                    refine awp_ret ?_; refine nmx ?_
                    obtain hR := Option.some.inj hh
                    subst hR
                    exact ret_p2
                  · rw [if_neg h32] at hh
                    replace h32 := Bool.eq_false_iff.mpr h32
                    refine awp_first fun K kk hK => ?_
                    simp only [go_sem, h30, h30, h31, h31, h32, h32]
                    (repeat refine sd ?_)
                    refine hK _ _ fun nx => ?_; clear hK K; try clear kk
                    refine awp_ret ?_; refine nmx ?_
                    obtain hR := Option.some.inj hh
                    subst hR
                    exact ret_p2
                · rw [if_neg h31] at hh
                  replace h31 := Bool.eq_false_iff.mpr h31
                  refine awp_first fun K kk hK => ?_
                  simp only [go_sem, h30, h30, h31, h31]
                  (repeat refine sd ?_)
                  refine hK _ _ fun nx => ?_; clear hK K; try clear kk
                  refine awp_ret ?_; refine nmx ?_
                  obtain hR := Option.some.inj hh
                  subst hR
                  exact ret_p2
              · rw [if_neg h30] at hh
                replace h30 := Bool.eq_false_iff.mpr h30
                refine awp_first fun K kk hK => ?_
                simp only [go_sem, h30, h30]
                (repeat refine sd ?_)
                refine hK _ _ fun nx => ?_; clear hK K; try clear kk
                refine awp_ret ?_; refine nmx ?_
                obtain hR := Option.some.inj hh
                subst hR
                exact ret_p2
            · rw [if_neg h29] at hh
              replace h29 := Bool.eq_false_iff.mpr h29
              refine awp_region fun K kk hK => ?_
              simp only [go_sem, h29, h29]
              (repeat refine sd ?_)
              refine step_call2 (lens_values_ok _ _ _ h28) (by (try simp only [go_sem, h29, h29]) <;> exact wkl) (by rfl) (by rfl) ?_
              simp only [go_sem, h29, h29]
              (repeat refine sd ?_)
              refine hK _ _ fun nx => ?_; clear hK K; try clear kk
              refine nmx ?_
              refine awp_exit ?_; refine nmx ?_
              refine awp_first fun K kk hK => ?_
              simp only [go_sem]
              refine hK _ _ fun nx => ?_; clear hK K; try clear kk
              refine awp_ret ?_; refine nmx ?_
              obtain hR := Option.some.inj hh
              subst hR
              exact ret_p2
          · intro s h; exact h.elim
  · intro i s h
    obtain ⟨rfl, rfl, v_5, nx, g1, rfl⟩ := h
    try dsimp only at hh
    refine nmx ?_
    refine awp_seq ?_
    by_cases h7 : ((w64 ((p_1.Values.length : Int) + (p_1.To.length : Int))) == (0 : Int)) = true
    · rw [if_pos h7] at hh
      by_cases h8 : (name_2) = true
      · rw [if_pos h8] at hh
        by_cases h9 : (name_4) = true
        · rw [if_pos h9] at hh
          refine awp_first fun K kk hK => ?_
          simp only [go_sem, h7, h7, h8, h8, h9, h9]
          (repeat refine sd ?_)
          refine hK _ _ fun nx => ?_; clear hK K; try clear kk
          refine awp_ret ?_; refine nmx ?_
          obtain hR := Option.some.inj hh
          subst hR
          exact ret_p2
        · rw [if_neg h9] at hh
          replace h9 := Bool.eq_false_iff.mpr h9
          refine awp_first fun K kk hK => ?_
          simp only [go_sem, h7, h7, h8, h8, h9, h9]
          (repeat refine sd ?_)
          refine hK _ _ fun nx => ?_; clear hK K; try clear kk
          refine awp_ret ?_; refine nmx ?_
          obtain hR := Option.some.inj hh
          subst hR
          exact ret_p2
      · rw [if_neg h8] at hh
        replace h8 := Bool.eq_false_iff.mpr h8
        refine awp_first fun K kk hK => ?_
        simp only [go_sem, h7, h7, h8, h8]
        (repeat refine sd ?_)
        refine hK _ _ fun nx => ?_; clear hK K; try clear kk
        refine awp_ret ?_; refine nmx ?_
        obtain hR := Option.some.inj hh
        subst hR
        exact ret_p2
    · rw [if_neg h7] at hh
      replace h7 := Bool.eq_false_iff.mpr h7
      refine awp_first fun K kk hK => ?_
      simp only [go_sem, h7, h7]
      (repeat refine sd ?_)
      refine hK _ _ fun nx => ?_; clear hK K; try clear kk
      refine awp_ret ?_; refine nmx ?_
      obtain hR := Option.some.inj hh
      subst hR
      exact ret_p2
  · intro s h; exact h.elim
theorem lens_Lens_formed_1_grp : ∀ kr : Nat, (∀ (k_1 : lens_Lens) (R : Bool), lens_Lens_formed_1_k kr k_1 = some R → PC Tryd.prog 100 [.agg [.int .u8 k_1.Prim.Op, .str k_1.Prim.Kind, .str k_1.Prim.Name, .str k_1.Prim.New, .list 1 (k_1.Prim.Values.map PV.str), .list 1 (k_1.Prim.To.map PV.str), .bool k_1.Turned, .list 8 (k_1.Kids.map lens_Lens.pv)]] (.bool R)) ∧
    (∀ (s_1 : (List lens_Lens)) (R : Int), slices_IndexFunc_lens_Lens_lens_Lens_formed_1_k kr s_1 = some R → PC Tryd.prog 122 [.list 8 (s_1.map lens_Lens.pv), .fn 100 []] (.int .i64 R)) ∧
    (∀ (s_1 : (List lens_Lens)) (R : Bool), slices_ContainsFunc_lens_Lens_lens_Lens_formed_1_k kr s_1 = some R → PC Tryd.prog 102 [.list 8 (s_1.map lens_Lens.pv), .fn 100 []] (.bool R)) ∧
    (∀ (l_1 : lens_Lens) (R : Bool), lens_Lens_formed_k kr l_1 = some R → PC Tryd.prog 73 [.agg [.int .u8 l_1.Prim.Op, .str l_1.Prim.Kind, .str l_1.Prim.Name, .str l_1.Prim.New, .list 1 (l_1.Prim.Values.map PV.str), .list 1 (l_1.Prim.To.map PV.str), .bool l_1.Turned, .list 8 (l_1.Kids.map lens_Lens.pv)]] (.bool R)) := by
  intro kr
  induction kr with
  | zero => exact ⟨(by intro k_1 R hh; rw [lens_Lens_formed_1_k] at hh; cases hh), (by intro s_1 R hh; rw [slices_IndexFunc_lens_Lens_lens_Lens_formed_1_k] at hh; cases hh), (by intro s_1 R hh; rw [slices_ContainsFunc_lens_Lens_lens_Lens_formed_1_k] at hh; cases hh), (by intro l_1 R hh; rw [lens_Lens_formed_k] at hh; cases hh)⟩
  | succ kr ih =>
    obtain ⟨ih_lens_Lens_formed_1, ih_slices_IndexFunc_lens_Lens_lens_Lens_formed_1, ih_slices_ContainsFunc_lens_Lens_lens_Lens_formed_1, ih_lens_Lens_formed⟩ := ih
    refine ⟨?_, ?_, ?_, ?_⟩
    · intro k_1 R hh
      rw [lens_Lens_formed_1_k] at hh
      refine start_lens_Lens_formed_1 rfl ?_
      refine awp_first fun K kk hK => ?_
      simp only [go_sem]
      refine hK _ _ fun nx => ?_; clear hK K; try clear kk
      obtain ⟨plain_2, h1, hh⟩ := bind_ex hh
      by_cases h2 : (plain_2) = true
      · rw [if_pos h2] at hh
        refine awp_first fun K kk hK => ?_
        simp only [go_sem, h2, h2]
        (repeat refine sd ?_)
        refine step_call2 (lens_Lens_plain_ok _ _ h1) (by (try simp only [go_sem, h2, h2]) <;> exact wkl) (by rfl) (by rfl) ?_
        simp only [go_sem, h2, h2]
        (repeat refine sd ?_)
        refine hK _ _ fun nx => ?_; clear hK K; try clear kk
        refine awp_ret ?_; refine nmx ?_
        obtain hR := Option.some.inj hh
        subst hR
        exact ret_p2
      · rw [if_neg h2] at hh
        replace h2 := Bool.eq_false_iff.mpr h2
        obtain ⟨formed_3, h3, hh⟩ := bind_ex hh
        refine awp_first fun K kk hK => ?_
        simp only [go_sem, h2, h2]
        (repeat refine sd ?_)
        refine step_call2 (lens_Lens_plain_ok _ _ h1) (by (try simp only [go_sem, h2, h2]) <;> exact wkl) (by rfl) (by rfl) ?_
        simp only [go_sem, h2, h2]
        (repeat refine sd ?_)
        refine step_call2 (ih_lens_Lens_formed _ _ h3) (by (try simp only [go_sem, h2, h2]) <;> exact wkl) (by rfl) (by rfl) ?_
        simp only [go_sem, h2, h2]
        (repeat refine sd ?_)
        refine hK _ _ fun nx => ?_; clear hK K; try clear kk
        refine awp_ret ?_; refine nmx ?_
        obtain hR := Option.some.inj hh
        subst hR
        exact ret_p2
    · intro s_1 R hh
      rw [slices_IndexFunc_lens_Lens_lens_Lens_formed_1_k] at hh
      refine start_slices_IndexFunc_lens_Lens_lens_Lens_formed_1 rfl ?_
      refine awp_first fun K kk hK => ?_
      simp only [go_sem]
      refine hK _ _ fun nx => ?_; clear hK K; try clear kk
      refine awp_seq ?_
      refine awp_first fun K kk hK => ?_
      simp only [go_sem]
      refine hK _ _ fun nx => ?_; clear hK K; try clear kk
      obtain ⟨e0, f0, hh⟩ := bind_ex hh
      obtain ⟨hlen0, f0⟩ := chk_some f0
      refine awp_fragE (CutTo (fun s => .inr () = e0 ∧ ∃ (v_10 : Int) (v_11 : Bool) (nx : Nat), s = ⟨[(0, .list 8 (s_1.map lens_Lens.pv)), (1, .fn 100 []), (7, .int .i64 (s_1.length : Int)), (8, .int .i64 v_10), (9, .bool v_11)], [], nx⟩))
        (fun i s => False)
        (fun s => ∃ res_9, .inl res_9 = e0 ∧ bodyR Tryd.prog [.tmp 4] (.int .i64 res_9) [] .ret s) ?_ ?_ ?_ ?_
      · refine awp_block ?_
        refine awp_loopJ fun I hI => ?_
        have key : ∀ (suf pre : List lens_Lens) (v_4 : Int), s_1 = pre ++ suf → v_4 = (pre.length : Int) → slices_IndexFunc_lens_Lens_lens_Lens_formed_1_l0 (lens_Lens_formed_1_k kr) suf v_4 = some e0 → ∀ (nx : Nat), I ⟨[(0, .list 8 (s_1.map lens_Lens.pv)), (1, .fn 100 []), (7, .int .i64 (s_1.length : Int)), (8, .int .i64 v_4)], [], nx⟩ := by
          intro suf
          induction suf with
          | nil =>
            intro pre v_4 hsplit hidx hh nx
            rw [slices_IndexFunc_lens_Lens_lens_Lens_formed_1_l0] at hh
            refine hI _ ?_
            have h9 := walk_nil hsplit hidx
            refine awp_first fun K kk hK => ?_
            simp only [go_sem]
            refine hK _ _ fun nx => ?_; clear hK K; try clear kk
            refine awp_seq ?_
            refine awp_false (by first | exact congrArg PV.bool h9 | rfl) ?_
            refine awp_exit ?_; refine nmx ?_
            refine fragN ?_
            refine cut_id ?_
            refine ⟨(Option.some.inj hh), ?_⟩
            first | exact ⟨_, _, _, rfl⟩ | (simp only [lens_Prim.pv_eq, lens_Lens.pv_eq, diptychref13_Prim.pv_eq, diptychref13_Lens.pv_eq, pvL, List.map_cons, List.map_nil, List.map_append, rune1]; exact ⟨_, _, _, rfl⟩) | (simp only [lens_Prim.pv_eq, lens_Lens.pv_eq, diptychref13_Prim.pv_eq, diptychref13_Lens.pv_eq, pvL, List.map_cons, List.map_nil, List.map_append, rune1, h9]; exact ⟨_, _, _, rfl⟩)
          | cons y_7 suf ih =>
            intro pre v_4 hsplit hidx hh nx
            rw [slices_IndexFunc_lens_Lens_lens_Lens_formed_1_l0] at hh
            refine hI _ ?_
            obtain ⟨hl0a, hl0b, hl0d, hl0w, h9⟩ := walk_cons (f := lens_Lens.pv) hsplit hidx hlen0
            refine awp_first fun K kk hK => ?_
            simp only [go_sem]
            refine hK _ _ fun nx => ?_; clear hK K; try clear kk
            refine awp_seq ?_
            refine awp_true (by first | exact congrArg PV.bool h9 | rfl) ?_
            refine awp_skip ?_; refine nmx ?_
            refine awp_seq ?_
            refine awp_block ?_
            refine awp_first fun K kk hK => ?_
            simp only [go_sem, hl0a, hl0b, hl0d, hl0w]
            refine hK _ _ fun nx => ?_; clear hK K; try clear kk
            obtain ⟨f1_8, h10, hh⟩ := bind_ex hh
            refine awp_first fun K kk hK => ?_
            simp only [go_sem, hl0a, hl0b, hl0d, hl0w]
            refine step_call2 (ih_lens_Lens_formed_1 _ _ h10) (by (try simp only [go_sem, hl0a, hl0b, hl0d, hl0w]) <;> exact wkl) (by rfl) (by rfl) ?_
            simp only [go_sem, hl0a, hl0b, hl0d, hl0w]
            refine hK _ _ fun nx => ?_; clear hK K; try clear kk
            by_cases h11 : (f1_8) = true
            · rw [if_pos h11] at hh
              refine awp_true (by first | exact congrArg PV.bool h11 | rfl) ?_
              refine awp_first fun K kk hK => ?_
              simp only [go_sem, hl0a, hl0b, hl0d, hl0w]
              refine hK _ _ fun nx => ?_; clear hK K; try clear kk
              refine awp_ret ?_; refine nmx ?_
              refine fragR ⟨_, (Option.some.inj hh), ?_⟩
              exact ret_p2
            · rw [if_neg h11] at hh
              replace h11 := Bool.eq_false_iff.mpr h11
              refine awp_false (by first | exact congrArg PV.bool h11 | rfl) ?_
              refine awp_skip ?_; refine nmx ?_
              refine awp_region fun K kk hK => ?_
              simp only [go_sem, hl0a, hl0b, hl0d, hl0w]
              refine hK _ _ fun nx => ?_; clear hK K; try clear kk
              refine nmx ?_
              have ih' := ih (pre ++ [y_7]) (v_4 + 1) (by rw [hsplit]; simp) (by simp [hidx]) hh nx
              refine cut_id ?_
              first | exact ih' | (simp only [lens_Prim.pv_eq, lens_Lens.pv_eq, diptychref13_Prim.pv_eq, diptychref13_Lens.pv_eq, pvL, List.map_cons, List.map_nil, List.map_append, rune1] at ih' ⊢; exact ih') | (simp only [lens_Prim.pv_eq, lens_Lens.pv_eq, diptychref13_Prim.pv_eq, diptychref13_Lens.pv_eq, pvL, List.map_cons, List.map_nil, List.map_append, rune1, h11, h9] at ih' ⊢; exact ih')
        exact key s_1 [] _ rfl rfl f0 _
      · rintro s ⟨t, hless, rfl, v_10, v_11, nx, rfl⟩
        try dsimp only at hh
        refine nmy ?_
        first | (refine cut_less hless ?_; try refine cut_awp ?_) | refine frag_less hless ?_ | refine body_less hless ?_
        refine awp_first fun K kk hK => ?_
        simp only [go_sem]
        refine hK _ _ fun nx => ?_; clear hK K; try clear kk
        refine awp_ret ?_; refine nmx ?_
        obtain hR := Option.some.inj hh
        subst hR
        exact ret_p2
      · intro i s h; exact h.elim
      · rintro s ⟨res_9, rfl, hb⟩
        try dsimp only at hh
        obtain hR := Option.some.inj hh
        subst hR
        refine nmx ?_
        exact hb
    · intro s_1 R hh
      rw [slices_ContainsFunc_lens_Lens_lens_Lens_formed_1_k] at hh
      refine start_slices_ContainsFunc_lens_Lens_lens_Lens_formed_1 rfl ?_
      refine awp_first fun K kk hK => ?_
      simp only [go_sem]
      refine hK _ _ fun nx => ?_; clear hK K; try clear kk
      obtain ⟨lens_2, h1, hh⟩ := bind_ex hh
      refine awp_first fun K kk hK => ?_
      simp only [go_sem]
      refine step_call2 (ih_slices_IndexFunc_lens_Lens_lens_Lens_formed_1 _ _ h1) (by (try simp only [go_sem]) <;> exact wkl) (by rfl) (by rfl) ?_
      simp only [go_sem]
      refine hK _ _ fun nx => ?_; clear hK K; try clear kk
      refine awp_ret ?_; refine nmx ?_
      obtain hR := Option.some.inj hh
      subst hR
      exact ret_p2
    · intro l_1 R hh
      rw [lens_Lens_formed_k] at hh
      refine start_lens_Lens_formed rfl ?_
      refine awp_first fun K kk hK => ?_
      simp only [go_sem]
      refine hK _ _ fun nx => ?_; clear hK K; try clear kk
      refine awp_first fun K kk hK => ?_
      simp only [go_sem]
      refine hK _ _ fun nx => ?_; clear hK K; try clear kk
      refine awp_seq ?_
      refine awp_first fun K kk hK => ?_
      simp only [go_sem]
      refine hK _ _ fun nx => ?_; clear hK K; try clear kk
      by_cases h1 : (l_1.Prim.Op != (0 : Int)) = true
      · rw [if_pos h1] at hh
        refine awp_true (by first | exact congrArg PV.bool h1 | rfl) ?_
        obtain ⟨right_2, h2, hh⟩ := bind_ex hh
        by_cases h3 : (right_2) = true
        · rw [if_pos h3] at hh
          by_cases h4 : (!l_1.Turned) = true
          · rw [if_pos h4] at hh
            refine awp_first fun K kk hK => ?_
            simp only [go_sem, h3, h3, h4, h4]
            (repeat refine sd ?_)
            refine step_call2 (lens_Prim_right_ok _ _ h2) (by (try simp only [go_sem, h3, h3, h4, h4]) <;> exact wkl) (by rfl) (by rfl) ?_
            simp only [go_sem, h3, h3, h4, h4]
            (repeat refine sd ?_)
            refine hK _ _ fun nx => ?_; clear hK K; try clear kk
            refine awp_ret ?_; refine nmx ?_
            obtain hR := Option.some.inj hh
            subst hR
            exact ret_p2
          · rw [if_neg h4] at hh
            replace h4 := Bool.eq_false_iff.mpr h4
            refine awp_first fun K kk hK => ?_
            simp only [go_sem, h3, h3, h4, h4]
            (repeat refine sd ?_)
            refine step_call2 (lens_Prim_right_ok _ _ h2) (by (try simp only [go_sem, h3, h3, h4, h4]) <;> exact wkl) (by rfl) (by rfl) ?_
            simp only [go_sem, h3, h3, h4, h4]
            (repeat refine sd ?_)
            refine hK _ _ fun nx => ?_; clear hK K; try clear kk
            refine awp_ret ?_; refine nmx ?_
            obtain hR := Option.some.inj hh
            subst hR
            exact ret_p2
        · rw [if_neg h3] at hh
          replace h3 := Bool.eq_false_iff.mpr h3
          refine awp_first fun K kk hK => ?_
          simp only [go_sem, h3, h3]
          (repeat refine sd ?_)
          refine step_call2 (lens_Prim_right_ok _ _ h2) (by (try simp only [go_sem, h3, h3]) <;> exact wkl) (by rfl) (by rfl) ?_
          simp only [go_sem, h3, h3]
          (repeat refine sd ?_)
          refine hK _ _ fun nx => ?_; clear hK K; try clear kk
          refine awp_ret ?_; refine nmx ?_
          obtain hR := Option.some.inj hh
          subst hR
          exact ret_p2
      · rw [if_neg h1] at hh
        replace h1 := Bool.eq_false_iff.mpr h1
        refine awp_false (by first | exact congrArg PV.bool h1 | rfl) ?_
        refine awp_skip ?_; refine nmx ?_
        refine awp_seq ?_
        obtain ⟨e0, f0, hh⟩ := bind_ex hh
        refine awp_frag (fun s => ∃ empty_3, empty_3 = e0 ∧ ∃ (nx : Nat) (g1 : Nat), s = ⟨[(1, .box 1 g1 0), (4, .bool empty_3)], [(1, g1, .var 53 [.int .u8 l_1.Prim.Op, .str l_1.Prim.Kind, .str l_1.Prim.Name, .str l_1.Prim.New, .list 1 (l_1.Prim.Values.map PV.str), .list 1 (l_1.Prim.To.map PV.str), .bool l_1.Turned, .list 8 (l_1.Kids.map lens_Lens.pv)])], nx⟩)
          (fun i s => False)
          (fun s => False) ?_ ?_ ?_ ?_
        · have hh := f0
          obtain ⟨h5, hh⟩ := chk_some hh
          obtain ⟨h6, hh⟩ := chk_some hh
          by_cases h7 : (((l_1.Prim.Kind ++ l_1.Prim.Name) ++ l_1.Prim.New) == ([] : Str)) = true
          · rw [if_pos h7] at hh
            refine awp_region fun K kk hK => ?_
            simp only [go_sem, h5, h6, h7, h7]
            (repeat refine sd ?_)
            refine hK _ _ fun nx => ?_; clear hK K; try clear kk
            refine nmx ?_
            refine fragN ?_
            refine cut_id ?_
            refine ⟨_, (Option.some.inj hh), ?_⟩
            first | exact ⟨_, _, rfl⟩ | (simp only [lens_Prim.pv_eq, lens_Lens.pv_eq, diptychref13_Prim.pv_eq, diptychref13_Lens.pv_eq, pvL, List.map_cons, List.map_nil, List.map_append, rune1]; exact ⟨_, _, rfl⟩) | (simp only [lens_Prim.pv_eq, lens_Lens.pv_eq, diptychref13_Prim.pv_eq, diptychref13_Lens.pv_eq, pvL, List.map_cons, List.map_nil, List.map_append, rune1, h1, h7]; exact ⟨_, _, rfl⟩)
          · rw [if_neg h7] at hh
            replace h7 := Bool.eq_false_iff.mpr h7
            refine awp_region fun K kk hK => ?_
            simp only [go_sem, h5, h6, h7, h7]
            (repeat refine sd ?_)
            refine hK _ _ fun nx => ?_; clear hK K; try clear kk
            refine nmx ?_
            refine fragN ?_
            refine cut_id ?_
            refine ⟨_, (Option.some.inj hh), ?_⟩
            first | exact ⟨_, _, rfl⟩ | (simp only [lens_Prim.pv_eq, lens_Lens.pv_eq, diptychref13_Prim.pv_eq, diptychref13_Lens.pv_eq, pvL, List.map_cons, List.map_nil, List.map_append, rune1]; exact ⟨_, _, rfl⟩) | (simp only [lens_Prim.pv_eq, lens_Lens.pv_eq, diptychref13_Prim.pv_eq, diptychref13_Lens.pv_eq, pvL, List.map_cons, List.map_nil, List.map_append, rune1, h1, h7]; exact ⟨_, _, rfl⟩)
        · rintro s ⟨empty_3, rfl, nx, g1, rfl⟩
          try dsimp only at hh
          refine awp_first fun K kk hK => ?_
          simp only [go_sem]
          refine hK _ _ fun nx => ?_; clear hK K; try clear kk
          by_cases h8 : (empty_3) = true
          · rw [if_pos h8] at hh
            by_cases h9 : (l_1.Turned) = true
            · rw [if_pos h9] at hh
              obtain ⟨lens_4, h10, hh⟩ := bind_ex hh
              refine awp_first fun K kk hK => ?_
              simp only [go_sem, h8, h9, h9, h8]
              (repeat refine sd ?_)
              refine step_call2 (ih_slices_ContainsFunc_lens_Lens_lens_Lens_formed_1 _ _ h10) (by (try simp only [go_sem, h8, h9, h9, h8]) <;> exact wkl) (by rfl) (by rfl) ?_
              simp only [go_sem, h8, h9, h9, h8]
              (repeat refine sd ?_)
              refine hK _ _ fun nx => ?_; clear hK K; try clear kk
              refine awp_ret ?_; refine nmx ?_
              obtain hR := Option.some.inj hh
              subst hR
              exact ret_p2
            · rw [if_neg h9] at hh
              replace h9 := Bool.eq_false_iff.mpr h9
              by_cases h11 : ((l_1.Kids.length : Int) != (1 : Int)) = true
              · rw [if_pos h11] at hh
                obtain ⟨lens_5, h12, hh⟩ := bind_ex hh
                refine awp_first fun K kk hK => ?_
                simp only [go_sem, h8, h9, h9, h8, h11, h11]
                (repeat refine sd ?_)
                refine step_call2 (ih_slices_ContainsFunc_lens_Lens_lens_Lens_formed_1 _ _ h12) (by (try simp only [go_sem, h8, h9, h9, h8, h11, h11]) <;> exact wkl) (by rfl) (by rfl) ?_
                simp only [go_sem, h8, h9, h9, h8, h11, h11]
                (repeat refine sd ?_)
                refine hK _ _ fun nx => ?_; clear hK K; try clear kk
                refine awp_ret ?_; refine nmx ?_
                obtain hR := Option.some.inj hh
                subst hR
                exact ret_p2
              · rw [if_neg h11] at hh
                replace h11 := Bool.eq_false_iff.mpr h11
                refine awp_first fun K kk hK => ?_
                simp only [go_sem, h8, h9, h9, h8, h11, h11]
                (repeat refine sd ?_)
                refine hK _ _ fun nx => ?_; clear hK K; try clear kk
                refine awp_ret ?_; refine nmx ?_
                obtain hR := Option.some.inj hh
                subst hR
                exact ret_p2
          · rw [if_neg h8] at hh
            replace h8 := Bool.eq_false_iff.mpr h8
            refine awp_first fun K kk hK => ?_
            simp only [go_sem, h8, h8]
            (repeat refine sd ?_)
            refine hK _ _ fun nx => ?_; clear hK K; try clear kk
            refine awp_ret ?_; refine nmx ?_
            obtain hR := Option.some.inj hh
            subst hR
            exact ret_p2
        · intro i s h; exact h.elim
        · intro s h; exact h.elim
theorem lens_Lens_formed_1_ok (k_1 : lens_Lens) (R : Bool) (hh : lens_Lens_formed_1 k_1 = some R) : PC Tryd.prog 100 [.agg [.int .u8 k_1.Prim.Op, .str k_1.Prim.Kind, .str k_1.Prim.Name, .str k_1.Prim.New, .list 1 (k_1.Prim.Values.map PV.str), .list 1 (k_1.Prim.To.map PV.str), .bool k_1.Turned, .list 8 (k_1.Kids.map lens_Lens.pv)]] (.bool R) := by
  rw [lens_Lens_formed_1] at hh
  obtain ⟨kr, hh⟩ := lim_some hh
  exact (lens_Lens_formed_1_grp kr).1 _ _ hh
theorem slices_IndexFunc_lens_Lens_lens_Lens_formed_1_ok (s_1 : (List lens_Lens)) (R : Int) (hh : slices_IndexFunc_lens_Lens_lens_Lens_formed_1 s_1 = some R) : PC Tryd.prog 122 [.list 8 (s_1.map lens_Lens.pv), .fn 100 []] (.int .i64 R) := by
  rw [slices_IndexFunc_lens_Lens_lens_Lens_formed_1] at hh
  obtain ⟨kr, hh⟩ := lim_some hh
  exact (lens_Lens_formed_1_grp kr).2.1 _ _ hh
theorem slices_ContainsFunc_lens_Lens_lens_Lens_formed_1_ok (s_1 : (List lens_Lens)) (R : Bool) (hh : slices_ContainsFunc_lens_Lens_lens_Lens_formed_1 s_1 = some R) : PC Tryd.prog 102 [.list 8 (s_1.map lens_Lens.pv), .fn 100 []] (.bool R) := by
  rw [slices_ContainsFunc_lens_Lens_lens_Lens_formed_1] at hh
  obtain ⟨kr, hh⟩ := lim_some hh
  exact (lens_Lens_formed_1_grp kr).2.2.1 _ _ hh
theorem lens_Lens_formed_ok (l_1 : lens_Lens) (R : Bool) (hh : lens_Lens_formed l_1 = some R) : PC Tryd.prog 73 [.agg [.int .u8 l_1.Prim.Op, .str l_1.Prim.Kind, .str l_1.Prim.Name, .str l_1.Prim.New, .list 1 (l_1.Prim.Values.map PV.str), .list 1 (l_1.Prim.To.map PV.str), .bool l_1.Turned, .list 8 (l_1.Kids.map lens_Lens.pv)]] (.bool R) := by
  rw [lens_Lens_formed] at hh
  obtain ⟨kr, hh⟩ := lim_some hh
  exact (lens_Lens_formed_1_grp kr).2.2.2 _ _ hh
theorem lens_Right_ok (l_1 : lens_Lens) (R : Bool) (hh : lens_Right l_1 = some R) : PC Tryd.prog 29 [.agg [.int .u8 l_1.Prim.Op, .str l_1.Prim.Kind, .str l_1.Prim.Name, .str l_1.Prim.New, .list 1 (l_1.Prim.Values.map PV.str), .list 1 (l_1.Prim.To.map PV.str), .bool l_1.Turned, .list 8 (l_1.Kids.map lens_Lens.pv)]] (.bool R) := by
  rw [lens_Right] at hh
  refine start_lens_Right rfl ?_
  refine awp_first fun K kk hK => ?_
  simp only [go_sem]
  refine hK _ _ fun nx => ?_; clear hK K; try clear kk
  obtain ⟨many_2, h1, hh⟩ := bind_ex hh
  by_cases h2 : (decide (many_2 ≤ (20 : Int))) = true
  · rw [if_pos h2] at hh
    obtain ⟨formed_3, h3, hh⟩ := bind_ex hh
    refine awp_first fun K kk hK => ?_
    simp only [go_sem, h2, of_decide_eq_true h2, h2, of_decide_eq_true h2]
    (repeat refine sd ?_)
    refine step_call2 (lens_Lens_many_ok _ _ h1) (by (try simp only [go_sem, h2, of_decide_eq_true h2, h2, of_decide_eq_true h2]) <;> exact wkl) (by rfl) (by rfl) ?_
    simp only [go_sem, h2, of_decide_eq_true h2, h2, of_decide_eq_true h2]
    (repeat refine sd ?_)
    refine step_call2 (lens_Lens_formed_ok _ _ h3) (by (try simp only [go_sem, h2, of_decide_eq_true h2, h2, of_decide_eq_true h2]) <;> exact wkl) (by rfl) (by rfl) ?_
    simp only [go_sem, h2, of_decide_eq_true h2, h2, of_decide_eq_true h2]
    (repeat refine sd ?_)
    refine hK _ _ fun nx => ?_; clear hK K; try clear kk
    refine awp_ret ?_; refine nmx ?_
    obtain hR := Option.some.inj hh
    subst hR
    exact ret_p2
  · rw [if_neg h2] at hh
    replace h2 := Bool.eq_false_iff.mpr h2
    refine awp_first fun K kk hK => ?_
    simp only [go_sem, h2, of_decide_eq_false h2, h2, of_decide_eq_false h2]
    (repeat refine sd ?_)
    refine step_call2 (lens_Lens_many_ok _ _ h1) (by (try simp only [go_sem, h2, of_decide_eq_false h2, h2, of_decide_eq_false h2]) <;> exact wkl) (by rfl) (by rfl) ?_
    simp only [go_sem, h2, of_decide_eq_false h2, h2, of_decide_eq_false h2]
    (repeat refine sd ?_)
    refine hK _ _ fun nx => ?_; clear hK K; try clear kk
    refine awp_ret ?_; refine nmx ?_
    obtain hR := Option.some.inj hh
    subst hR
    exact ret_p2
theorem lens_opOf_ok (s_1 : Str) (R : Int) (hh : lens_opOf s_1 = some R) : PC Tryd.prog 132 [.str s_1] (.int .u8 R) := by
  rw [lens_opOf] at hh
  refine start_lens_opOf rfl ?_
  refine awp_first fun K kk hK => ?_
  simp only [go_sem]
  refine hK _ _ fun nx => ?_; clear hK K; try clear kk
  refine awp_seq ?_
  refine awp_first fun K kk hK => ?_
  simp only [go_sem]
  refine hK _ _ fun nx => ?_; clear hK K; try clear kk
  refine awp_block ?_
  refine awp_first fun K kk hK => ?_
  simp only [go_sem]
  refine hK _ _ fun nx => ?_; clear hK K; try clear kk
  by_cases h1 : (s_1 == ([97, 116, 116, 114] : Str)) = true
  · rw [if_pos h1] at hh
    refine awp_true (by first | exact congrArg PV.bool h1 | rfl) ?_
    refine awp_first fun K kk hK => ?_
    simp only [go_sem]
    refine hK _ _ fun nx => ?_; clear hK K; try clear kk
    refine awp_ret ?_; refine nmx ?_
    obtain hR := Option.some.inj hh
    subst hR
    exact ret_p2
  · rw [if_neg h1] at hh
    replace h1 := Bool.eq_false_iff.mpr h1
    refine awp_false (by first | exact congrArg PV.bool h1 | rfl) ?_
    refine awp_first fun K kk hK => ?_
    simp only [go_sem]
    refine hK _ _ fun nx => ?_; clear hK K; try clear kk
    by_cases h2 : (s_1 == ([] : Str)) = true
    · rw [if_pos h2] at hh
      refine awp_true (by first | exact congrArg PV.bool h2 | rfl) ?_
      refine awp_first fun K kk hK => ?_
      simp only [go_sem]
      refine hK _ _ fun nx => ?_; clear hK K; try clear kk
      refine awp_ret ?_; refine nmx ?_
      obtain hR := Option.some.inj hh
      subst hR
      exact ret_p2
    · rw [if_neg h2] at hh
      replace h2 := Bool.eq_false_iff.mpr h2
      refine awp_false (by first | exact congrArg PV.bool h2 | rfl) ?_
      refine awp_skip ?_; refine nmx ?_
      obtain ⟨h3, hh⟩ := chk_some hh
      refine awp_first fun K kk hK => ?_
      simp only [go_sem, h3.1, h3.2]
      (repeat refine sd ?_)
      refine hK _ _ fun nx => ?_; clear hK K; try clear kk
      refine awp_ret ?_; refine nmx ?_
      obtain hR := Option.some.inj hh
      subst hR
      exact ret_p2

end Go.Proofs.YtpjdafhmneiohaaDoor
