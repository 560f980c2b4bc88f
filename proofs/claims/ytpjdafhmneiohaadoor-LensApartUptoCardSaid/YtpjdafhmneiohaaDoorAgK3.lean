/- What the functions answer, the program answers (3). -/
import Derived.Test.YtpjdafhmneiohaaDoorAgC
import Derived.Test.YtpjdafhmneiohaaDoorAgF
import Derived.Test.YtpjdafhmneiohaaDoorAgK0
import Derived.Test.YtpjdafhmneiohaaDoorAgK1
import Derived.Test.YtpjdafhmneiohaaDoorAgK2
namespace Go.Proofs.YtpjdafhmneiohaaDoor
set_option linter.unusedSimpArgs false
set_option linter.unusedVariables false
open Go
set_option maxRecDepth 100000

theorem lens_prim_ok (text_1 : Str) (R : (lens_Prim × Bool)) (hh : lens_prim text_1 = some R) : PC Tryd.prog 108 [.str text_1] (.tup [.agg [.int .u8 R.1.Op, .str R.1.Kind, .str R.1.Name, .str R.1.New, .list 1 (R.1.Values.map PV.str), .list 1 (R.1.To.map PV.str)], .bool R.2]) := by
  rw [lens_prim] at hh
  refine start_lens_prim rfl ?_
  refine awp_first fun K kk hK => ?_
  simp only [go_sem]
  refine hK _ _ fun nx => ?_; clear hK K; try clear kk
  obtain ⟨split_2, h1, hh⟩ := bind_ex hh
  refine awp_first fun K kk hK => ?_
  simp only [go_sem]
  refine step_call2 (strings_Split_ok _ _ _ h1).list (by (try simp only [go_sem]) <;> exact wkl) (by rfl) (by rfl) ?_
  simp only [go_sem]
  refine hK _ _ fun nx => ?_; clear hK K; try clear kk
  obtain ⟨x_3, h2, hh⟩ := bind_ex hh
  obtain ⟨h2a, h2b, h2c⟩ := rd_some h2
  have h2d := rd_get (f := PV.str) h2c
  have h2f := rd_more (f := PV.str) h2c
  try simp only [Int.toNat_natCast, Int.reduceToNat] at h2d h2f
  obtain ⟨opof_4, h3, hh⟩ := bind_ex hh
  refine awp_first fun K kk hK => ?_
  simp only [go_sem, h2a, h2b, h2d, h2f.1, h2f.2]
  (repeat refine sd ?_)
  refine step_call2 (lens_opOf_ok _ _ h3) (by (try simp only [go_sem, h2a, h2b, h2d, h2f.1, h2f.2]) <;> exact wkl) (by rfl) (by rfl) ?_
  simp only [go_sem, h2a, h2b, h2d, h2f.1, h2f.2]
  (repeat refine sd ?_)
  refine hK _ _ fun nx => ?_; clear hK K; try clear kk
  refine awp_seq ?_
  obtain ⟨verb_5, h4, hh⟩ := bind_ex hh
  by_cases h5 : (!(verb_5 == x_3)) = true
  · rw [if_pos h5] at hh
    refine awp_first fun K kk hK => ?_
    simp only [go_sem, h2a, h2b, h2d, h2f.1, h2f.2, h5, h5]
    (repeat refine sd ?_)
    refine step_call2 (lens_verb_ok _ _ h4) (by (try simp only [go_sem, h2a, h2b, h2d, h2f.1, h2f.2, h5, h5]) <;> exact wkl) (by rfl) (by rfl) ?_
    simp only [go_sem, h2a, h2b, h2d, h2f.1, h2f.2, h5, h5]
    (repeat refine sd ?_)
    refine hK _ _ fun nx => ?_; clear hK K; try clear kk
    refine awp_true rfl ?_
    refine awp_first fun K kk hK => ?_
    simp only [go_sem]
    refine hK _ _ fun nx => ?_; clear hK K; try clear kk
    refine awp_ret ?_; refine nmx ?_
    obtain hR := Option.some.inj hh
    subst hR
    exact ret_p2
  · rw [if_neg h5] at hh
    replace h5 := Bool.eq_false_iff.mpr h5
    refine awp_first fun K kk hK => ?_
    simp only [go_sem, h2a, h2b, h2d, h2f.1, h2f.2, h5, h5]
    (repeat refine sd ?_)
    refine step_call2 (lens_verb_ok _ _ h4) (by (try simp only [go_sem, h2a, h2b, h2d, h2f.1, h2f.2, h5, h5]) <;> exact wkl) (by rfl) (by rfl) ?_
    simp only [go_sem, h2a, h2b, h2d, h2f.1, h2f.2, h5, h5]
    (repeat refine sd ?_)
    refine hK _ _ fun nx => ?_; clear hK K; try clear kk
    by_cases h6 : (decide ((split_2.length : Int) < (3 : Int))) = true
    · rw [if_pos h6] at hh
      refine awp_true (by first | exact congrArg PV.bool h6 | rfl) ?_
      refine awp_first fun K kk hK => ?_
      simp only [go_sem]
      refine hK _ _ fun nx => ?_; clear hK K; try clear kk
      refine awp_ret ?_; refine nmx ?_
      obtain hR := Option.some.inj hh
      subst hR
      exact ret_p2
    · rw [if_neg h6] at hh
      replace h6 := Bool.eq_false_iff.mpr h6
      refine awp_false (by first | exact congrArg PV.bool h6 | rfl) ?_
      refine awp_skip ?_; refine nmx ?_
      obtain ⟨x_6, h7, hh⟩ := bind_ex hh
      obtain ⟨h7a, h7b, h7c⟩ := rd_some h7
      have h7d := rd_get (f := PV.str) h7c
      have h7f := rd_more (f := PV.str) h7c
      try simp only [Int.toNat_natCast, Int.reduceToNat] at h7d h7f
      obtain ⟨x_7, h8, hh⟩ := bind_ex hh
      obtain ⟨h8a, h8b, h8c⟩ := rd_some h8
      have h8d := rd_get (f := PV.str) h8c
      have h8f := rd_more (f := PV.str) h8c
      try simp only [Int.toNat_natCast, Int.reduceToNat] at h8d h8f
      refine awp_first fun K kk hK => ?_
      simp only [go_sem, h7a, h7b, h7d, h7f.1, h7f.2, h8a, h8b, h8d, h8f.1, h8f.2]
      (repeat refine sd ?_)
      refine hK _ _ fun nx => ?_; clear hK K; try clear kk
      refine awp_seq ?_
      refine awp_first fun K kk hK => ?_
      simp only [go_sem]
      refine hK _ _ fun nx => ?_; clear hK K; try clear kk
      refine awp_block ?_
      refine awp_seq ?_
      obtain ⟨e0, f0, hh⟩ := bind_ex hh
      refine awp_frag (fun s => ∃ v_8, v_8 = e0 ∧ ∃ (nx : Nat) (g2 : Nat) (g5 : Nat) (g339 : Nat) (g340 : Nat), s = ⟨[(2, .box 2 g2 0), (4, .list 1 (split_2.map PV.str)), (5, .box 5 g5 0), (43, .int .u8 opof_4), (44, .bool v_8)], [(2, g2, .var 50 [.int .u8 (0 : Int), .str ([] : Str), .str ([] : Str), .str ([] : Str), .list 1 ([].map PV.str), .list 1 ([].map PV.str)]), (5, g5, .var 50 [.int .u8 opof_4, .str x_6, .str x_7, .str ([] : Str), .row 339 g339 ([] : List Str).length, .row 340 g340 ([] : List Str).length]), (339, g339, .row false 1 (([] : List Str).map PV.str)), (340, g340, .row false 1 (([] : List Str).map PV.str))], nx⟩)
        (fun i s => False)
        (fun s => False) ?_ ?_ ?_ ?_
      · have hh := f0
        refine awp_first fun K kk hK => ?_
        simp only [go_sem]
        refine hK _ _ fun nx => ?_; clear hK K; try clear kk
        by_cases h9 : (opof_4 == (114 : Int)) = true
        · rw [if_pos h9] at hh
          refine awp_true (by first | exact congrArg PV.bool h9 | rfl) ?_
          refine awp_skip ?_; refine nmx ?_
          refine fragN ?_
          refine cut_id ?_
          refine ⟨_, (Option.some.inj hh), ?_⟩
          first | exact ⟨_, _, _, _, _, rfl⟩ | (simp only [lens_Prim.pv_eq, lens_Lens.pv_eq, diptychref13_Prim.pv_eq, diptychref13_Lens.pv_eq, pvL, List.map_cons, List.map_nil, List.map_append, rune1]; exact ⟨_, _, _, _, _, rfl⟩) | (simp only [lens_Prim.pv_eq, lens_Lens.pv_eq, diptychref13_Prim.pv_eq, diptychref13_Lens.pv_eq, pvL, List.map_cons, List.map_nil, List.map_append, rune1, h5, h6, h9]; exact ⟨_, _, _, _, _, rfl⟩)
        · rw [if_neg h9] at hh
          replace h9 := Bool.eq_false_iff.mpr h9
          refine awp_false (by first | exact congrArg PV.bool h9 | rfl) ?_
          refine awp_first fun K kk hK => ?_
          simp only [go_sem]
          refine hK _ _ fun nx => ?_; clear hK K; try clear kk
          by_cases h10 : (opof_4 == (119 : Int)) = true
          · rw [if_pos h10] at hh
            refine awp_true (by first | exact congrArg PV.bool h10 | rfl) ?_
            refine awp_skip ?_; refine nmx ?_
            refine fragN ?_
            refine cut_id ?_
            refine ⟨_, (Option.some.inj hh), ?_⟩
            first | exact ⟨_, _, _, _, _, rfl⟩ | (simp only [lens_Prim.pv_eq, lens_Lens.pv_eq, diptychref13_Prim.pv_eq, diptychref13_Lens.pv_eq, pvL, List.map_cons, List.map_nil, List.map_append, rune1]; exact ⟨_, _, _, _, _, rfl⟩) | (simp only [lens_Prim.pv_eq, lens_Lens.pv_eq, diptychref13_Prim.pv_eq, diptychref13_Lens.pv_eq, pvL, List.map_cons, List.map_nil, List.map_append, rune1, h10, h5, h6, h9]; exact ⟨_, _, _, _, _, rfl⟩)
          · rw [if_neg h10] at hh
            replace h10 := Bool.eq_false_iff.mpr h10
            refine awp_false (by first | exact congrArg PV.bool h10 | rfl) ?_
            refine awp_region fun K kk hK => ?_
            simp only [go_sem]
            refine hK _ _ fun nx => ?_; clear hK K; try clear kk
            refine nmx ?_
            refine fragN ?_
            refine cut_id ?_
            refine ⟨_, (Option.some.inj hh), ?_⟩
            first | exact ⟨_, _, _, _, _, rfl⟩ | (simp only [lens_Prim.pv_eq, lens_Lens.pv_eq, diptychref13_Prim.pv_eq, diptychref13_Lens.pv_eq, pvL, List.map_cons, List.map_nil, List.map_append, rune1]; exact ⟨_, _, _, _, _, rfl⟩) | (simp only [lens_Prim.pv_eq, lens_Lens.pv_eq, diptychref13_Prim.pv_eq, diptychref13_Lens.pv_eq, pvL, List.map_cons, List.map_nil, List.map_append, rune1, h10, h5, h6, h9]; exact ⟨_, _, _, _, _, rfl⟩)
      · rintro s ⟨v_8, rfl, nx, g2, g5, g339, g340, rfl⟩
        try dsimp only at hh
        by_cases h11 : (v_8) = true
        · rw [if_pos h11] at hh
          refine awp_true (by first | exact congrArg PV.bool h11 | rfl) ?_
          refine awp_region fun K kk hK => ?_
          simp only [go_sem, h8a, h8b, h8d, h8f.1, h8f.2]
          (repeat refine sd ?_)
          refine hK _ _ fun nx => ?_; clear hK K; try clear kk
          refine nmx ?_
          obtain ⟨right_9, h12, hh⟩ := bind_ex hh
          refine first_fact (.nrm 5 [none, none, none, none, some 1, none]) ?_
          refine first_fact (.nrm 5 [none, none, none, none, none, some 1]) ?_
          refine awp_first fun K kk hK => ?_
          simp only [go_sem]
          refine step_call2 (lens_Prim_right_ok _ _ h12) (by (try simp only [go_sem]) <;> exact wkl) (by rfl) (by rfl) ?_
          simp only [go_sem]
          refine hK _ _ fun nx => ?_; clear hK K; try clear kk
          refine awp_ret ?_; refine nmx ?_
          obtain hR := Option.some.inj hh
          subst hR
          exact ret_p2
        · rw [if_neg h11] at hh
          replace h11 := Bool.eq_false_iff.mpr h11
          refine awp_false (by first | exact congrArg PV.bool h11 | rfl) ?_
          refine awp_first fun K kk hK => ?_
          simp only [go_sem]
          refine hK _ _ fun nx => ?_; clear hK K; try clear kk
          by_cases h13 : (opof_4 == (109 : Int)) = true
          · rw [if_pos h13] at hh
            refine awp_true (by first | exact congrArg PV.bool h13 | rfl) ?_
            refine awp_region fun K kk hK => ?_
            simp only [go_sem, h7a, h7b, h7d, h7f.1, h7f.2, h8a, h8b, h8d, h8f.1, h8f.2]
            (repeat refine sd ?_)
            refine hK _ _ fun nx => ?_; clear hK K; try clear kk
            refine nmx ?_
            obtain ⟨right_10, h14, hh⟩ := bind_ex hh
            refine first_fact (.nrm 5 [none, none, none, none, some 1, none]) ?_
            refine first_fact (.nrm 5 [none, none, none, none, none, some 1]) ?_
            refine awp_first fun K kk hK => ?_
            simp only [go_sem]
            refine step_call2 (lens_Prim_right_ok _ _ h14) (by (try simp only [go_sem]) <;> exact wkl) (by rfl) (by rfl) ?_
            simp only [go_sem]
            refine hK _ _ fun nx => ?_; clear hK K; try clear kk
            refine awp_ret ?_; refine nmx ?_
            obtain hR := Option.some.inj hh
            subst hR
            exact ret_p2
          · rw [if_neg h13] at hh
            replace h13 := Bool.eq_false_iff.mpr h13
            refine awp_false (by first | exact congrArg PV.bool h13 | rfl) ?_
            refine awp_first fun K kk hK => ?_
            simp only [go_sem]
            refine hK _ _ fun nx => ?_; clear hK K; try clear kk
            by_cases h15 : (opof_4 == (110 : Int)) = true
            · rw [if_pos h15] at hh
              refine awp_true (by first | exact congrArg PV.bool h15 | rfl) ?_
              obtain ⟨x_11, h16, hh⟩ := bind_ex hh
              obtain ⟨h16a, h16b, h16c⟩ := rd_some h16
              have h16d := rd_get (f := PV.str) h16c
              have h16f := rd_more (f := PV.str) h16c
              try simp only [Int.toNat_natCast, Int.reduceToNat] at h16d h16f
              refine awp_region fun K kk hK => ?_
              simp only [go_sem, h16a, h16b, h16d, h16f.1, h16f.2]
              (repeat refine sd ?_)
              refine hK _ _ fun nx => ?_; clear hK K; try clear kk
              refine nmx ?_
              obtain ⟨right_12, h17, hh⟩ := bind_ex hh
              refine first_fact (.nrm 5 [none, none, none, none, some 1, none]) ?_
              refine first_fact (.nrm 5 [none, none, none, none, none, some 1]) ?_
              refine awp_first fun K kk hK => ?_
              simp only [go_sem]
              refine step_call2 (lens_Prim_right_ok _ _ h17) (by (try simp only [go_sem]) <;> exact wkl) (by rfl) (by rfl) ?_
              simp only [go_sem]
              refine hK _ _ fun nx => ?_; clear hK K; try clear kk
              refine awp_ret ?_; refine nmx ?_
              obtain hR := Option.some.inj hh
              subst hR
              exact ret_p2
            · rw [if_neg h15] at hh
              replace h15 := Bool.eq_false_iff.mpr h15
              refine awp_false (by first | exact congrArg PV.bool h15 | rfl) ?_
              refine awp_seq ?_
              obtain ⟨e1, f1, hh⟩ := bind_ex hh
              refine awp_frag (fun s => ∃ v_13, v_13 = e1 ∧ ∃ (nx : Nat) (g2 : Nat) (g5 : Nat) (g339 : Nat) (g340 : Nat), s = ⟨[(2, .box 2 g2 0), (4, .list 1 (split_2.map PV.str)), (5, .box 5 g5 0), (43, .int .u8 opof_4), (73, .bool v_13)], [(2, g2, .var 50 [.int .u8 (0 : Int), .str ([] : Str), .str ([] : Str), .str ([] : Str), .list 1 ([].map PV.str), .list 1 ([].map PV.str)]), (5, g5, .var 50 [.int .u8 opof_4, .str x_6, .str x_7, .str ([] : Str), .row 339 g339 ([] : List Str).length, .row 340 g340 ([] : List Str).length]), (339, g339, .row false 1 (([] : List Str).map PV.str)), (340, g340, .row false 1 (([] : List Str).map PV.str))], nx⟩)
                (fun i s => False)
                (fun s => False) ?_ ?_ ?_ ?_
              · have hh := f1
                refine awp_first fun K kk hK => ?_
                simp only [go_sem]
                refine hK _ _ fun nx => ?_; clear hK K; try clear kk
                by_cases h18 : (opof_4 == (97 : Int)) = true
                · rw [if_pos h18] at hh
                  refine awp_true (by first | exact congrArg PV.bool h18 | rfl) ?_
                  refine awp_skip ?_; refine nmx ?_
                  refine fragN ?_
                  refine cut_id ?_
                  refine ⟨_, (Option.some.inj hh), ?_⟩
                  first | exact ⟨_, _, _, _, _, rfl⟩ | (simp only [lens_Prim.pv_eq, lens_Lens.pv_eq, diptychref13_Prim.pv_eq, diptychref13_Lens.pv_eq, pvL, List.map_cons, List.map_nil, List.map_append, rune1]; exact ⟨_, _, _, _, _, rfl⟩) | (simp only [lens_Prim.pv_eq, lens_Lens.pv_eq, diptychref13_Prim.pv_eq, diptychref13_Lens.pv_eq, pvL, List.map_cons, List.map_nil, List.map_append, rune1, h11, h13, h15, h18, h5, h6]; exact ⟨_, _, _, _, _, rfl⟩)
                · rw [if_neg h18] at hh
                  replace h18 := Bool.eq_false_iff.mpr h18
                  refine awp_false (by first | exact congrArg PV.bool h18 | rfl) ?_
                  refine awp_region fun K kk hK => ?_
                  simp only [go_sem]
                  refine hK _ _ fun nx => ?_; clear hK K; try clear kk
                  refine nmx ?_
                  refine fragN ?_
                  refine cut_id ?_
                  refine ⟨_, (Option.some.inj hh), ?_⟩
                  first | exact ⟨_, _, _, _, _, rfl⟩ | (simp only [lens_Prim.pv_eq, lens_Lens.pv_eq, diptychref13_Prim.pv_eq, diptychref13_Lens.pv_eq, pvL, List.map_cons, List.map_nil, List.map_append, rune1]; exact ⟨_, _, _, _, _, rfl⟩) | (simp only [lens_Prim.pv_eq, lens_Lens.pv_eq, diptychref13_Prim.pv_eq, diptychref13_Lens.pv_eq, pvL, List.map_cons, List.map_nil, List.map_append, rune1, h11, h13, h15, h18, h5, h6]; exact ⟨_, _, _, _, _, rfl⟩)
              · rintro s ⟨v_13, rfl, nx, g2, g5, g339, g340, rfl⟩
                try dsimp only at hh
                by_cases h19 : (v_13) = true
                · rw [if_pos h19] at hh
                  refine awp_true (by first | exact congrArg PV.bool h19 | rfl) ?_
                  obtain ⟨⟨r_14, r_15, r_16⟩, h20, hh⟩ := bind_ex hh
                  dsimp only at hh
                  refine awp_first fun K kk hK => ?_
                  simp only [go_sem, h8a, h8b, h8d, h8f.1, h8f.2]
                  (repeat refine sd ?_)
                  refine step_call2 (strings_Cut_ok _ _ _ h20) (by (try simp only [go_sem, h8a, h8b, h8d, h8f.1, h8f.2]) <;> exact wkl) (by rfl) (by rfl) ?_
                  simp only [go_sem, h8a, h8b, h8d, h8f.1, h8f.2]
                  (repeat refine sd ?_)
                  refine hK _ _ fun nx => ?_; clear hK K; try clear kk
                  refine awp_first fun K kk hK => ?_
                  simp only [go_sem]
                  refine hK _ _ fun nx => ?_; clear hK K; try clear kk
                  refine awp_first fun K kk hK => ?_
                  simp only [go_sem]
                  refine hK _ _ fun nx => ?_; clear hK K; try clear kk
                  by_cases h21 : (!(r_15 == ([42] : Str))) = true
                  · rw [if_pos h21] at hh
                    refine awp_true (by first | exact congrArg PV.bool h21 | rfl) ?_
                    obtain ⟨split_17, h22, hh⟩ := bind_ex hh
                    refine awp_region fun K kk hK => ?_
                    simp only [go_sem]
                    refine step_call2 (strings_Split_ok _ _ _ h22).list (by (try simp only [go_sem]) <;> exact wkl) (by rfl) (by rfl) ?_
                    simp only [go_sem]
                    refine hK _ _ fun nx => ?_; clear hK K; try clear kk
                    refine nmx ?_
                    obtain ⟨right_18, h23, hh⟩ := bind_ex hh
                    refine first_fact (.nrm 5 [none, none, none, none, none, some 1]) ?_
                    refine awp_first fun K kk hK => ?_
                    simp only [go_sem]
                    refine step_call2 (lens_Prim_right_ok _ _ h23) (by (try simp only [go_sem]) <;> exact wkl) (by rfl) (by rfl) ?_
                    simp only [go_sem]
                    refine hK _ _ fun nx => ?_; clear hK K; try clear kk
                    refine awp_ret ?_; refine nmx ?_
                    obtain hR := Option.some.inj hh
                    subst hR
                    exact ret_p2
                  · rw [if_neg h21] at hh
                    replace h21 := Bool.eq_false_iff.mpr h21
                    refine awp_false (by first | exact congrArg PV.bool h21 | rfl) ?_
                    refine awp_skip ?_; refine nmx ?_
                    obtain ⟨right_19, h24, hh⟩ := bind_ex hh
                    refine first_fact (.nrm 5 [none, none, none, none, some 1, none]) ?_
                    refine first_fact (.nrm 5 [none, none, none, none, none, some 1]) ?_
                    refine awp_first fun K kk hK => ?_
                    simp only [go_sem]
                    refine step_call2 (lens_Prim_right_ok _ _ h24) (by (try simp only [go_sem]) <;> exact wkl) (by rfl) (by rfl) ?_
                    simp only [go_sem]
                    refine hK _ _ fun nx => ?_; clear hK K; try clear kk
                    refine awp_ret ?_; refine nmx ?_
                    obtain hR := Option.some.inj hh
                    subst hR
                    exact ret_p2
                · rw [if_neg h19] at hh
                  replace h19 := Bool.eq_false_iff.mpr h19
                  refine awp_false (by first | exact congrArg PV.bool h19 | rfl) ?_
                  refine awp_first fun K kk hK => ?_
                  simp only [go_sem]
                  refine hK _ _ fun nx => ?_; clear hK K; try clear kk
                  by_cases h25 : (opof_4 == (116 : Int)) = true
                  · rw [if_pos h25] at hh
                    refine awp_true (by first | exact congrArg PV.bool h25 | rfl) ?_
                    obtain ⟨x_20, h26, hh⟩ := bind_ex hh
                    obtain ⟨h26a, h26b, h26c⟩ := rd_some h26
                    have h26d := rd_get (f := PV.str) h26c
                    have h26f := rd_more (f := PV.str) h26c
                    try simp only [Int.toNat_natCast, Int.reduceToNat] at h26d h26f
                    obtain ⟨split_21, h27, hh⟩ := bind_ex hh
                    refine awp_first fun K kk hK => ?_
                    simp only [go_sem, h26a, h26b, h26d, h26f.1, h26f.2]
                    (repeat refine sd ?_)
                    refine step_call2 (strings_Split_ok _ _ _ h27).list (by (try simp only [go_sem, h26a, h26b, h26d, h26f.1, h26f.2]) <;> exact wkl) (by rfl) (by rfl) ?_
                    simp only [go_sem, h26a, h26b, h26d, h26f.1, h26f.2]
                    (repeat refine sd ?_)
                    refine hK _ _ fun nx => ?_; clear hK K; try clear kk
                    obtain ⟨e2, f2, hh⟩ := bind_ex hh
                    obtain ⟨hlen2, f2⟩ := chk_some f2
                    refine awp_fragE (CutTo (fun s => ∃ v_45, ∃ v_46, (v_45, v_46) = e2 ∧ ∃ (v_43 : Int) (v_44 : Bool) (nx : Nat) (g2 : Nat) (g5 : Nat) (g339 : Nat) (g340 : Nat), s = ⟨[(2, .box 2 g2 0), (5, .box 5 g5 0), (99, .list 1 (split_21.map PV.str)), (100, .int .i64 (split_21.length : Int)), (101, .int .i64 v_43), (102, .bool v_44)], [(2, g2, .var 50 [.int .u8 (0 : Int), .str ([] : Str), .str ([] : Str), .str ([] : Str), .list 1 ([].map PV.str), .list 1 ([].map PV.str)]), (5, g5, .var 50 [.int .u8 opof_4, .str x_6, .str x_7, .str ([] : Str), .row 339 g339 v_45.length, .row 340 g340 v_46.length]), (339, g339, .row false 1 (v_45.map PV.str)), (340, g340, .row false 1 (v_46.map PV.str))], nx⟩))
                      (fun i s => False)
                      (fun s => False) ?_ ?_ ?_ ?_
                    · refine awp_block ?_
                      refine awp_loopJ fun I hI => ?_
                      have key : ∀ (suf pre : List Str) (v_28 : Int) (v_29 : (List Str)) (v_30 : (List Str)), split_21 = pre ++ suf → v_28 = (pre.length : Int) → lens_prim_l2 suf v_28 v_29 v_30 = some e2 → ∀ (nx : Nat) (g2 : Nat) (g5 : Nat) (g339 : Nat) (g340 : Nat), I ⟨[(2, .box 2 g2 0), (5, .box 5 g5 0), (99, .list 1 (split_21.map PV.str)), (100, .int .i64 (split_21.length : Int)), (101, .int .i64 v_28)], [(2, g2, .var 50 [.int .u8 (0 : Int), .str ([] : Str), .str ([] : Str), .str ([] : Str), .list 1 ([].map PV.str), .list 1 ([].map PV.str)]), (5, g5, .var 50 [.int .u8 opof_4, .str x_6, .str x_7, .str ([] : Str), .row 339 g339 v_29.length, .row 340 g340 v_30.length]), (339, g339, .row false 1 (v_29.map PV.str)), (340, g340, .row false 1 (v_30.map PV.str))], nx⟩ := by
                        intro suf
                        induction suf with
                        | nil =>
                          intro pre v_28 v_29 v_30 hsplit hidx hh nx g2 g5 g339 g340
                          rw [lens_prim_l2] at hh
                          refine hI _ ?_
                          have h38 := walk_nil hsplit hidx
                          refine awp_first fun K kk hK => ?_
                          simp only [go_sem]
                          refine hK _ _ fun nx => ?_; clear hK K; try clear kk
                          refine awp_seq ?_
                          refine awp_false (by first | exact congrArg PV.bool h38 | rfl) ?_
                          refine awp_exit ?_; refine nmx ?_
                          refine fragN ?_
                          refine cut_id ?_
                          refine ⟨_, _, (Option.some.inj hh), ?_⟩
                          first | exact ⟨_, _, _, _, _, _, _, rfl⟩ | (simp only [lens_Prim.pv_eq, lens_Lens.pv_eq, diptychref13_Prim.pv_eq, diptychref13_Lens.pv_eq, pvL, List.map_cons, List.map_nil, List.map_append, rune1]; exact ⟨_, _, _, _, _, _, _, rfl⟩) | (simp only [lens_Prim.pv_eq, lens_Lens.pv_eq, diptychref13_Prim.pv_eq, diptychref13_Lens.pv_eq, pvL, List.map_cons, List.map_nil, List.map_append, rune1, h11, h13, h15, h19, h25, h38, h5, h6]; exact ⟨_, _, _, _, _, _, _, rfl⟩)
                        | cons y_37 suf ih =>
                          intro pre v_28 v_29 v_30 hsplit hidx hh nx g2 g5 g339 g340
                          rw [lens_prim_l2] at hh
                          refine hI _ ?_
                          obtain ⟨hl2a, hl2b, hl2d, hl2w, h38⟩ := walk_cons (f := PV.str) hsplit hidx hlen2
                          refine awp_first fun K kk hK => ?_
                          simp only [go_sem]
                          refine hK _ _ fun nx => ?_; clear hK K; try clear kk
                          refine awp_seq ?_
                          refine awp_true (by first | exact congrArg PV.bool h38 | rfl) ?_
                          refine awp_skip ?_; refine nmx ?_
                          refine awp_seq ?_
                          refine awp_block ?_
                          refine awp_first fun K kk hK => ?_
                          simp only [go_sem, hl2a, hl2b, hl2d, hl2w]
                          refine hK _ _ fun nx => ?_; clear hK K; try clear kk
                          obtain ⟨⟨r_38, r_39, r_40⟩, h39, hh⟩ := bind_ex hh
                          dsimp only at hh
                          refine awp_first fun K kk hK => ?_
                          simp only [go_sem, hl2a, hl2b, hl2d, hl2w]
                          refine step_call2 (strings_Cut_ok _ _ _ h39) (by (try simp only [go_sem, hl2a, hl2b, hl2d, hl2w]) <;> exact wkl) (by rfl) (by rfl) ?_
                          simp only [go_sem, hl2a, hl2b, hl2d, hl2w]
                          refine hK _ _ fun nx => ?_; clear hK K; try clear kk
                          obtain ⟨l_41, h40, hh⟩ := bind_ex hh
                          obtain ⟨h40a, h40c⟩ := app_some h40
                          have h40d := app_map (f := PV.str) h40c
                          have h40e := app_len h40c
                          try simp only [List.length_cons, List.length_nil, Nat.zero_add, Nat.reduceAdd] at h40a h40e
                          try simp only [h40e] at h40a
                          try simp only [List.map_cons, List.map_nil, List.nil_append, List.append_nil, List.cons_append, List.singleton_append, rune1, lens_Prim.pv_eq, lens_Lens.pv_eq, diptychref13_Prim.pv_eq, diptychref13_Lens.pv_eq, pvL] at h40d
                          obtain ⟨l_42, h41, hh⟩ := bind_ex hh
                          obtain ⟨h41a, h41c⟩ := app_some h41
                          have h41d := app_map (f := PV.str) h41c
                          have h41e := app_len h41c
                          try simp only [List.length_cons, List.length_nil, Nat.zero_add, Nat.reduceAdd] at h41a h41e
                          try simp only [h41e] at h41a
                          try simp only [List.map_cons, List.map_nil, List.nil_append, List.append_nil, List.cons_append, List.singleton_append, rune1, lens_Prim.pv_eq, lens_Lens.pv_eq, diptychref13_Prim.pv_eq, diptychref13_Lens.pv_eq, pvL] at h41d
                          refine awp_region fun K kk hK => ?_
                          simp only [go_sem, h40a, h40d, h40e, h41a, h41d, h41e, hl2a, hl2b, hl2d, hl2w]
                          (repeat refine sd ?_)
                          refine hK _ _ fun nx => ?_; clear hK K; try clear kk
                          refine nmx ?_
                          refine awp_region fun K kk hK => ?_
                          simp only [go_sem, hl2a, hl2b, hl2d, hl2w]
                          refine hK _ _ fun nx => ?_; clear hK K; try clear kk
                          refine nmx ?_
                          have ih' := ih (pre ++ [y_37]) (v_28 + 1) _ _ (by rw [hsplit]; simp) (by simp [hidx]) hh nx
                          refine cut_id ?_
                          first | exact ih' _ _ _ _ | (simp only [lens_Prim.pv_eq, lens_Lens.pv_eq, diptychref13_Prim.pv_eq, diptychref13_Lens.pv_eq, pvL, List.map_cons, List.map_nil, List.map_append, rune1, h40e, h41e] at ih' ⊢; exact ih' _ _ _ _) | (simp only [lens_Prim.pv_eq, lens_Lens.pv_eq, diptychref13_Prim.pv_eq, diptychref13_Lens.pv_eq, pvL, List.map_cons, List.map_nil, List.map_append, rune1, h40e, h41e, h11, h13, h15, h19, h25, h38, h5, h6] at ih' ⊢; exact ih' _ _ _ _)
                      exact key split_21 [] _ _ _ rfl rfl f2 _ _ _ _ _
                    · rintro s ⟨t, hless, v_45, v_46, rfl, v_43, v_44, nx, g2, g5, g339, g340, rfl⟩
                      try dsimp only at hh
                      refine nmy ?_
                      first | (refine cut_less hless ?_; try refine cut_awp ?_) | refine frag_less hless ?_ | refine body_less hless ?_
                      obtain ⟨right_47, h42, hh⟩ := bind_ex hh
                      refine first_fact (.nrm 5 [none, none, none, none, some 1, none]) ?_
                      refine first_fact (.nrm 5 [none, none, none, none, none, some 1]) ?_
                      refine awp_first fun K kk hK => ?_
                      simp only [go_sem]
                      refine step_call2 (lens_Prim_right_ok _ _ h42) (by (try simp only [go_sem]) <;> exact wkl) (by rfl) (by rfl) ?_
                      simp only [go_sem]
                      refine hK _ _ fun nx => ?_; clear hK K; try clear kk
                      refine awp_ret ?_; refine nmx ?_
                      obtain hR := Option.some.inj hh
                      subst hR
                      exact ret_p2
                    · intro i s h; exact h.elim
                    · intro s h; exact h.elim
                  · rw [if_neg h25] at hh
                    replace h25 := Bool.eq_false_iff.mpr h25
                    refine awp_false (by first | exact congrArg PV.bool h25 | rfl) ?_
                    refine awp_skip ?_; refine nmx ?_
                    obtain ⟨right_48, h43, hh⟩ := bind_ex hh
                    refine first_fact (.nrm 5 [none, none, none, none, some 1, none]) ?_
                    refine first_fact (.nrm 5 [none, none, none, none, none, some 1]) ?_
                    refine awp_first fun K kk hK => ?_
                    simp only [go_sem]
                    refine step_call2 (lens_Prim_right_ok _ _ h43) (by (try simp only [go_sem]) <;> exact wkl) (by rfl) (by rfl) ?_
                    simp only [go_sem]
                    refine hK _ _ fun nx => ?_; clear hK K; try clear kk
                    refine awp_ret ?_; refine nmx ?_
                    obtain hR := Option.some.inj hh
                    subst hR
                    exact ret_p2
              · intro i s h; exact h.elim
              · intro s h; exact h.elim
      · intro i s h; exact h.elim
      · intro s h; exact h.elim
theorem lens_row_grp : ∀ kr : Nat, (∀ (text_1 : Str) (deep_2 : Int) (R : ((List lens_Lens) × Str × Bool)), lens_row_k kr text_1 deep_2 = some R → PC Tryd.prog 78 [.str text_1, .int .i64 deep_2] (.tup [.list 8 (R.1.map lens_Lens.pv), .str R.2.1, .bool R.2.2])) := by
  intro kr
  induction kr with
  | zero => exact (by intro text_1 deep_2 R hh; rw [lens_row_k] at hh; cases hh)
  | succ kr ih =>
    have ih_lens_row := ih
    clear ih
    intro text_1 deep_2 R hh
    rw [lens_row_k] at hh
    refine start_lens_row rfl ?_
    refine awp_first fun K kk hK => ?_
    simp only [go_sem]
    refine hK _ _ fun nx => ?_; clear hK K; try clear kk
    refine awp_first fun K kk hK => ?_
    simp only [go_sem]
    refine hK _ _ fun nx => ?_; clear hK K; try clear kk
    refine awp_seq ?_
    obtain ⟨e0, f0, hh⟩ := bind_ex hh
    refine awp_frag (fun s => .inr () = e0 ∧ ∃ (text_44 : Str) (l_45 : (List lens_Lens)) (nx : Nat) (g7 : Nat), s = ⟨[(0, .str text_44), (1, .int .i64 deep_2), (7, .row 7 g7 l_45.length), (19, .bool (decide (deep_2 < (20 : Int))))], [(7, g7, .row false 8 (l_45.map lens_Lens.pv))], nx⟩)
      (fun i s => False)
      (fun s => ∃ res_43, .inl res_43 = e0 ∧ bodyR Tryd.prog [.tmp 4, .tmp 5, .tmp 6] (.tup [.list 8 (res_43.1.map lens_Lens.pv), .str res_43.2.1, .bool res_43.2.2]) [] .ret s) ?_ ?_ ?_ ?_
    · refine awp_block ?_
      refine awp_loopJ fun I hI => ?_
      obtain ⟨k, f0⟩ := lim_some f0
      have key : ∀ (k : Nat) (text_22 : Str) (l_23 : (List lens_Lens)), lens_row_l0 deep_2 (lens_row_k kr) k text_22 l_23 = some e0 → ∀ (nx : Nat) (g7 : Nat), I ⟨[(0, .str text_22), (1, .int .i64 deep_2), (7, .row 7 g7 l_23.length)], [(7, g7, .row false 8 (l_23.map lens_Lens.pv))], nx⟩ := by
        intro k
        induction k with
        | zero => intro text_22 l_23 hh; rw [lens_row_l0] at hh; cases hh
        | succ k ih =>
          intro text_22 l_23 hh nx g7
          rw [lens_row_l0] at hh
          refine hI _ ?_
          refine awp_seq ?_
          refine awp_first fun K kk hK => ?_
          simp only [go_sem]
          refine hK _ _ fun nx => ?_; clear hK K; try clear kk
          by_cases h20 : (decide (deep_2 < (20 : Int))) = true
          · rw [if_pos h20] at hh
            refine awp_true (by first | exact congrArg PV.bool h20 | rfl) ?_
            refine awp_skip ?_; refine nmx ?_
            refine awp_block ?_
            refine awp_seq ?_
            obtain ⟨e2, f2, hh⟩ := bind_ex hh
            refine awp_frag (fun s => ∃ text_39, ∃ l_40, .inr (text_39, l_40) = e2 ∧ ∃ (nx : Nat) (g7 : Nat), s = ⟨[(0, .str text_39), (1, .int .i64 deep_2), (7, .row 7 g7 l_40.length)], [(7, g7, .row false 8 (l_40.map lens_Lens.pv))], nx⟩)
              (fun i s => False)
              (fun s => ∃ res_38, .inl res_38 = e2 ∧ bodyR Tryd.prog [.tmp 4, .tmp 5, .tmp 6] (.tup [.list 8 (res_38.1.map lens_Lens.pv), .str res_38.2.1, .bool res_38.2.2]) [] .ret s) ?_ ?_ ?_ ?_
            · have hh := f2
              obtain ⟨⟨r_24, r_25⟩, h21, hh⟩ := bind_ex hh
              dsimp only at hh
              refine awp_first fun K kk hK => ?_
              simp only [go_sem]
              refine step_call2 (strings_CutPrefix_ok _ _ _ h21) (by (try simp only [go_sem]) <;> exact wkl) (by rfl) (by rfl) ?_
              simp only [go_sem]
              refine hK _ _ fun nx => ?_; clear hK K; try clear kk
              refine awp_first fun K kk hK => ?_
              simp only [go_sem]
              refine hK _ _ fun nx => ?_; clear hK K; try clear kk
              by_cases h22 : (r_25) = true
              · rw [if_pos h22] at hh
                refine awp_true (by first | exact congrArg PV.bool h22 | rfl) ?_
                obtain ⟨⟨r_26, r_27, r_28⟩, h23, hh⟩ := bind_ex hh
                dsimp only at hh
                refine awp_first fun K kk hK => ?_
                simp only [go_sem]
                refine step_call2 (ih_lens_row _ _ _ h23) (by (try simp only [go_sem]) <;> exact wkl) (by rfl) (by rfl) ?_
                simp only [go_sem]
                refine hK _ _ fun nx => ?_; clear hK K; try clear kk
                refine awp_seq ?_
                by_cases h24 : (!r_28) = true
                · rw [if_pos h24] at hh
                  refine awp_first fun K kk hK => ?_
                  simp only [go_sem, h24, h24]
                  (repeat refine sd ?_)
                  refine hK _ _ fun nx => ?_; clear hK K; try clear kk
                  refine awp_true rfl ?_
                  refine awp_first fun K kk hK => ?_
                  simp only [go_sem]
                  refine hK _ _ fun nx => ?_; clear hK K; try clear kk
                  refine awp_ret ?_; refine nmx ?_
                  refine fragR ⟨_, (Option.some.inj hh), ?_⟩
                  exact ret_p2
                · rw [if_neg h24] at hh
                  replace h24 := Bool.eq_false_iff.mpr h24
                  obtain ⟨haspre_29, h25, hh⟩ := bind_ex hh
                  refine awp_first fun K kk hK => ?_
                  simp only [go_sem, h24, h24]
                  (repeat refine sd ?_)
                  refine step_call2 (strings_HasPrefix_ok _ _ _ h25) (by (try simp only [go_sem, h24, h24]) <;> exact wkl) (by rfl) (by rfl) ?_
                  simp only [go_sem, h24, h24]
                  (repeat refine sd ?_)
                  refine hK _ _ fun nx => ?_; clear hK K; try clear kk
                  by_cases h26 : (!haspre_29) = true
                  · rw [if_pos h26] at hh
                    refine awp_true (by first | exact congrArg PV.bool h26 | rfl) ?_
                    refine awp_first fun K kk hK => ?_
                    simp only [go_sem]
                    refine hK _ _ fun nx => ?_; clear hK K; try clear kk
                    refine awp_ret ?_; refine nmx ?_
                    refine fragR ⟨_, (Option.some.inj hh), ?_⟩
                    exact ret_p2
                  · rw [if_neg h26] at hh
                    replace h26 := Bool.eq_false_iff.mpr h26
                    refine awp_false (by first | exact congrArg PV.bool h26 | rfl) ?_
                    refine awp_skip ?_; refine nmx ?_
                    obtain ⟨l_30, h27, hh⟩ := bind_ex hh
                    obtain ⟨h27a, h27c⟩ := app_some h27
                    have h27d := app_map (f := lens_Lens.pv) h27c
                    have h27e := app_len h27c
                    try simp only [List.length_cons, List.length_nil, Nat.zero_add, Nat.reduceAdd] at h27a h27e
                    try simp only [h27e] at h27a
                    try simp only [List.map_cons, List.map_nil, List.nil_append, List.append_nil, List.cons_append, List.singleton_append, rune1, lens_Prim.pv_eq, lens_Lens.pv_eq, diptychref13_Prim.pv_eq, diptychref13_Lens.pv_eq, pvL] at h27d
                    obtain ⟨s_31, h28, hh⟩ := bind_ex hh
                    obtain ⟨h28a, h28c⟩ := sl_some h28
                    have h28g := sl_le h28a
                    have h28d := sl_str1 h28c
                    try simp only [Int.toNat_natCast, Int.reduceToNat] at h28d
                    refine awp_region fun K kk hK => ?_
                    simp only [go_sem, h27a, h27d, h27e, h28a.1, h28a.2.1, h28a.2.2, h28d, h28g]
                    (repeat refine sd ?_)
                    refine hK _ _ fun nx => ?_; clear hK K; try clear kk
                    refine nmx ?_
                    refine fragN ?_
                    refine cut_id ?_
                    refine ⟨_, _, (Option.some.inj hh), ?_⟩
                    first | exact ⟨_, _, rfl⟩ | (simp only [lens_Prim.pv_eq, lens_Lens.pv_eq, diptychref13_Prim.pv_eq, diptychref13_Lens.pv_eq, pvL, List.map_cons, List.map_nil, List.map_append, rune1, h27e]; exact ⟨_, _, rfl⟩) | (simp only [lens_Prim.pv_eq, lens_Lens.pv_eq, diptychref13_Prim.pv_eq, diptychref13_Lens.pv_eq, pvL, List.map_cons, List.map_nil, List.map_append, rune1, h27e, h20, h22, h24, h26]; exact ⟨_, _, rfl⟩)
              · rw [if_neg h22] at hh
                replace h22 := Bool.eq_false_iff.mpr h22
                refine awp_false (by first | exact congrArg PV.bool h22 | rfl) ?_
                obtain ⟨h29, hh⟩ := chk_some hh
                obtain ⟨indexa_32, h30, hh⟩ := bind_ex hh
                refine awp_first fun K kk hK => ?_
                simp only [go_sem, h29]
                (repeat refine sd ?_)
                refine step_call2 (strings_IndexAny_ok _ _ _ h30) (by (try simp only [go_sem, h29]) <;> exact wkl) (by rfl) (by rfl) ?_
                simp only [go_sem, h29]
                (repeat refine sd ?_)
                refine hK _ _ fun nx => ?_; clear hK K; try clear kk
                refine awp_first fun K kk hK => ?_
                simp only [go_sem]
                refine hK _ _ fun nx => ?_; clear hK K; try clear kk
                by_cases h31 : (decide (indexa_32 > (0 : Int))) = true
                · rw [if_pos h31] at hh
                  refine awp_true (by first | exact congrArg PV.bool h31 | rfl) ?_
                  obtain ⟨s_33, h32, hh⟩ := bind_ex hh
                  obtain ⟨h32a, h32c⟩ := sl_some h32
                  have h32g := sl_le h32a
                  have h32d := sl_str0 h32c
                  try simp only [Int.toNat_natCast, Int.reduceToNat] at h32d
                  obtain ⟨⟨r_34, r_35⟩, h33, hh⟩ := bind_ex hh
                  dsimp only at hh
                  refine awp_first fun K kk hK => ?_
                  simp only [go_sem, h32a.1, h32a.2.1, h32a.2.2, h32d, h32g]
                  (repeat refine sd ?_)
                  refine step_call2 (lens_prim_ok _ _ h33) (by (try simp only [go_sem, h32a.1, h32a.2.1, h32a.2.2, h32d, h32g]) <;> exact wkl) (by rfl) (by rfl) ?_
                  simp only [go_sem, h32a.1, h32a.2.1, h32a.2.2, h32d, h32g]
                  (repeat refine sd ?_)
                  refine hK _ _ fun nx => ?_; clear hK K; try clear kk
                  refine awp_seq ?_
                  refine awp_first fun K kk hK => ?_
                  simp only [go_sem]
                  refine hK _ _ fun nx => ?_; clear hK K; try clear kk
                  by_cases h34 : (!r_35) = true
                  · rw [if_pos h34] at hh
                    refine awp_true (by first | exact congrArg PV.bool h34 | rfl) ?_
                    refine awp_first fun K kk hK => ?_
                    simp only [go_sem]
                    refine hK _ _ fun nx => ?_; clear hK K; try clear kk
                    refine awp_ret ?_; refine nmx ?_
                    refine fragR ⟨_, (Option.some.inj hh), ?_⟩
                    exact ret_p2
                  · rw [if_neg h34] at hh
                    replace h34 := Bool.eq_false_iff.mpr h34
                    refine awp_false (by first | exact congrArg PV.bool h34 | rfl) ?_
                    refine awp_skip ?_; refine nmx ?_
                    obtain ⟨l_36, h35, hh⟩ := bind_ex hh
                    obtain ⟨h35a, h35c⟩ := app_some h35
                    have h35d := app_map (f := lens_Lens.pv) h35c
                    have h35e := app_len h35c
                    try simp only [List.length_cons, List.length_nil, Nat.zero_add, Nat.reduceAdd] at h35a h35e
                    try simp only [h35e] at h35a
                    try simp only [List.map_cons, List.map_nil, List.nil_append, List.append_nil, List.cons_append, List.singleton_append, rune1, lens_Prim.pv_eq, lens_Lens.pv_eq, diptychref13_Prim.pv_eq, diptychref13_Lens.pv_eq, pvL] at h35d
                    obtain ⟨s_37, h36, hh⟩ := bind_ex hh
                    obtain ⟨h36a, h36c⟩ := sl_some h36
                    have h36g := sl_le h36a
                    have h36d := sl_str1 h36c
                    try simp only [Int.toNat_natCast, Int.reduceToNat] at h36d
                    refine awp_region fun K kk hK => ?_
                    simp only [go_sem, h35a, h35d, h35e, h36a.1, h36a.2.1, h36a.2.2, h36d, h36g]
                    (repeat refine sd ?_)
                    refine hK _ _ fun nx => ?_; clear hK K; try clear kk
                    refine nmx ?_
                    refine fragN ?_
                    refine cut_id ?_
                    refine ⟨_, _, (Option.some.inj hh), ?_⟩
                    first | exact ⟨_, _, rfl⟩ | (simp only [lens_Prim.pv_eq, lens_Lens.pv_eq, diptychref13_Prim.pv_eq, diptychref13_Lens.pv_eq, pvL, List.map_cons, List.map_nil, List.map_append, rune1, h35e]; exact ⟨_, _, rfl⟩) | (simp only [lens_Prim.pv_eq, lens_Lens.pv_eq, diptychref13_Prim.pv_eq, diptychref13_Lens.pv_eq, pvL, List.map_cons, List.map_nil, List.map_append, rune1, h35e, h20, h22, h31, h34]; exact ⟨_, _, rfl⟩)
                · rw [if_neg h31] at hh
                  replace h31 := Bool.eq_false_iff.mpr h31
                  refine awp_false (by first | exact congrArg PV.bool h31 | rfl) ?_
                  refine awp_skip ?_; refine nmx ?_
                  refine fragN ?_
                  refine cut_to (less_cut _ [0, 1, 7] [7]) ?_
                  refine ⟨_, _, (Option.some.inj hh), ?_⟩
                  first | exact ⟨_, _, rfl⟩ | (simp only [lens_Prim.pv_eq, lens_Lens.pv_eq, diptychref13_Prim.pv_eq, diptychref13_Lens.pv_eq, pvL, List.map_cons, List.map_nil, List.map_append, rune1]; exact ⟨_, _, rfl⟩) | (simp only [lens_Prim.pv_eq, lens_Lens.pv_eq, diptychref13_Prim.pv_eq, diptychref13_Lens.pv_eq, pvL, List.map_cons, List.map_nil, List.map_append, rune1, h20, h22, h31]; exact ⟨_, _, rfl⟩)
            · rintro s ⟨text_39, l_40, rfl, nx, g7, rfl⟩
              try dsimp only at hh
              obtain ⟨⟨r_41, r_42⟩, h37, hh⟩ := bind_ex hh
              dsimp only at hh
              refine awp_first fun K kk hK => ?_
              simp only [go_sem]
              refine step_call2 (strings_CutPrefix_ok _ _ _ h37) (by (try simp only [go_sem]) <;> exact wkl) (by rfl) (by rfl) ?_
              simp only [go_sem]
              refine hK _ _ fun nx => ?_; clear hK K; try clear kk
              refine awp_seq ?_
              refine awp_first fun K kk hK => ?_
              simp only [go_sem]
              refine hK _ _ fun nx => ?_; clear hK K; try clear kk
              by_cases h38 : (!r_42) = true
              · rw [if_pos h38] at hh
                refine awp_true (by first | exact congrArg PV.bool h38 | rfl) ?_
                refine awp_first fun K kk hK => ?_
                simp only [go_sem]
                refine hK _ _ fun nx => ?_; clear hK K; try clear kk
                refine awp_ret ?_; refine nmx ?_
                refine fragR ⟨_, (Option.some.inj hh), ?_⟩
                exact ret_p2
              · rw [if_neg h38] at hh
                replace h38 := Bool.eq_false_iff.mpr h38
                refine awp_false (by first | exact congrArg PV.bool h38 | rfl) ?_
                refine awp_skip ?_; refine nmx ?_
                refine awp_region fun K kk hK => ?_
                simp only [go_sem]
                refine hK _ _ fun nx => ?_; clear hK K; try clear kk
                refine nmx ?_
                have ih' := ih _ _ hh nx
                refine cut_id ?_
                first | exact ih' _ | (simp only [lens_Prim.pv_eq, lens_Lens.pv_eq, diptychref13_Prim.pv_eq, diptychref13_Lens.pv_eq, pvL, List.map_cons, List.map_nil, List.map_append, rune1] at ih' ⊢; exact ih' _) | (simp only [lens_Prim.pv_eq, lens_Lens.pv_eq, diptychref13_Prim.pv_eq, diptychref13_Lens.pv_eq, pvL, List.map_cons, List.map_nil, List.map_append, rune1, h20, h38] at ih' ⊢; exact ih' _)
            · intro i s h; exact h.elim
            · rintro s ⟨res_38, rfl, hb⟩
              try dsimp only at hh
              refine nmx ?_
              exact fragR ⟨_, (Option.some.inj hh), hb⟩
          · rw [if_neg h20] at hh
            replace h20 := Bool.eq_false_iff.mpr h20
            refine awp_false (by first | exact congrArg PV.bool h20 | rfl) ?_
            refine awp_exit ?_; refine nmx ?_
            refine fragN ?_
            refine cut_id ?_
            refine ⟨(Option.some.inj hh), ?_⟩
            first | exact ⟨_, _, _, _, rfl⟩ | (simp only [lens_Prim.pv_eq, lens_Lens.pv_eq, diptychref13_Prim.pv_eq, diptychref13_Lens.pv_eq, pvL, List.map_cons, List.map_nil, List.map_append, rune1]; exact ⟨_, _, _, _, rfl⟩) | (simp only [lens_Prim.pv_eq, lens_Lens.pv_eq, diptychref13_Prim.pv_eq, diptychref13_Lens.pv_eq, pvL, List.map_cons, List.map_nil, List.map_append, rune1, h20]; exact ⟨_, _, _, _, rfl⟩)
      exact key _ _ _ f0 _ _
    · rintro s ⟨rfl, text_44, l_45, nx, g7, rfl⟩
      try dsimp only at hh
      refine awp_first fun K kk hK => ?_
      simp only [go_sem]
      refine hK _ _ fun nx => ?_; clear hK K; try clear kk
      refine awp_ret ?_; refine nmx ?_
      obtain hR := Option.some.inj hh
      subst hR
      exact ret_p2
    · intro i s h; exact h.elim
    · rintro s ⟨res_43, rfl, hb⟩
      try dsimp only at hh
      obtain hR := Option.some.inj hh
      subst hR
      refine nmx ?_
      exact hb
theorem lens_row_ok (text_1 : Str) (deep_2 : Int) (R : ((List lens_Lens) × Str × Bool)) (hh : lens_row text_1 deep_2 = some R) : PC Tryd.prog 78 [.str text_1, .int .i64 deep_2] (.tup [.list 8 (R.1.map lens_Lens.pv), .str R.2.1, .bool R.2.2]) := by
  rw [lens_row] at hh
  obtain ⟨kr, hh⟩ := lim_some hh
  exact (lens_row_grp kr) _ _ _ hh
theorem lens_Parse_ok (text_1 : Str) (R : (lens_Lens × Int)) (hh : lens_Parse text_1 = some R) : PC Tryd.prog 37 [.str text_1] (.tup [.agg [.int .u8 R.1.Prim.Op, .str R.1.Prim.Kind, .str R.1.Prim.Name, .str R.1.Prim.New, .list 1 (R.1.Prim.Values.map PV.str), .list 1 (R.1.Prim.To.map PV.str), .bool R.1.Turned, .list 8 (R.1.Kids.map lens_Lens.pv)], .int .i64 R.2]) := by
  rw [lens_Parse] at hh
  refine start_lens_Parse rfl ?_
  refine awp_first fun K kk hK => ?_
  simp only [go_sem]
  refine hK _ _ fun nx => ?_; clear hK K; try clear kk
  obtain ⟨⟨r_2, r_3, r_4⟩, h1, hh⟩ := bind_ex hh
  dsimp only at hh
  refine awp_first fun K kk hK => ?_
  simp only [go_sem]
  refine step_call2 (lens_row_ok _ _ _ h1) (by (try simp only [go_sem]) <;> exact wkl) (by rfl) (by rfl) ?_
  simp only [go_sem]
  refine hK _ _ fun nx => ?_; clear hK K; try clear kk
  refine awp_first fun K kk hK => ?_
  simp only [go_sem]
  refine hK _ _ fun nx => ?_; clear hK K; try clear kk
  refine awp_seq ?_
  obtain ⟨e0, f0, hh⟩ := bind_ex hh
  refine awp_frag (fun s => ∃ out_6, out_6 = e0 ∧ ∃ (nx : Nat) (g2 : Nat) (g7 : Nat), s = ⟨[(0, .str text_1), (2, .box 2 g2 0), (5, .str r_3), (6, .bool r_4), (7, .box 7 g7 0)], [(2, g2, .var 53 [.int .u8 (0 : Int), .str ([] : Str), .str ([] : Str), .str ([] : Str), .list 1 ([].map PV.str), .list 1 ([].map PV.str), .bool false, .list 8 ([].map lens_Lens.pv)]), (7, g7, .var 53 [.int .u8 out_6.Prim.Op, .str out_6.Prim.Kind, .str out_6.Prim.Name, .str out_6.Prim.New, .list 1 (out_6.Prim.Values.map PV.str), .list 1 (out_6.Prim.To.map PV.str), .bool out_6.Turned, .list 8 (out_6.Kids.map lens_Lens.pv)])], nx⟩)
    (fun i s => False)
    (fun s => False) ?_ ?_ ?_ ?_
  · have hh := f0
    refine awp_first fun K kk hK => ?_
    simp only [go_sem]
    refine hK _ _ fun nx => ?_; clear hK K; try clear kk
    by_cases h2 : ((r_2.length : Int) == (1 : Int)) = true
    · rw [if_pos h2] at hh
      refine awp_true (by first | exact congrArg PV.bool h2 | rfl) ?_
      obtain ⟨x_5, h3, hh⟩ := bind_ex hh
      obtain ⟨h3a, h3b, h3c⟩ := rd_some h3
      have h3d := rd_get (f := lens_Lens.pv) h3c
      have h3f := rd_more (f := lens_Lens.pv) h3c
      try simp only [Int.toNat_natCast, Int.reduceToNat] at h3d h3f
      refine awp_region fun K kk hK => ?_
      simp only [go_sem, h3a, h3b, h3d, h3f.1, h3f.2]
      (repeat refine sd ?_)
      refine hK _ _ fun nx => ?_; clear hK K; try clear kk
      refine nmx ?_
      refine fragN ?_
      refine cut_id ?_
      refine ⟨_, (Option.some.inj hh), ?_⟩
      first | exact ⟨_, _, _, rfl⟩ | (simp only [lens_Prim.pv_eq, lens_Lens.pv_eq, diptychref13_Prim.pv_eq, diptychref13_Lens.pv_eq, pvL, List.map_cons, List.map_nil, List.map_append, rune1]; exact ⟨_, _, _, rfl⟩) | (simp only [lens_Prim.pv_eq, lens_Lens.pv_eq, diptychref13_Prim.pv_eq, diptychref13_Lens.pv_eq, pvL, List.map_cons, List.map_nil, List.map_append, rune1, h2]; exact ⟨_, _, _, rfl⟩)
    · rw [if_neg h2] at hh
      replace h2 := Bool.eq_false_iff.mpr h2
      refine awp_false (by first | exact congrArg PV.bool h2 | rfl) ?_
      refine awp_skip ?_; refine nmx ?_
      refine fragN ?_
      refine cut_to (less_cut _ [0, 2, 5, 6, 7] [2, 7]) ?_
      refine ⟨_, (Option.some.inj hh), ?_⟩
      first | exact ⟨_, _, _, rfl⟩ | (simp only [lens_Prim.pv_eq, lens_Lens.pv_eq, diptychref13_Prim.pv_eq, diptychref13_Lens.pv_eq, pvL, List.map_cons, List.map_nil, List.map_append, rune1]; exact ⟨_, _, _, rfl⟩) | (simp only [lens_Prim.pv_eq, lens_Lens.pv_eq, diptychref13_Prim.pv_eq, diptychref13_Lens.pv_eq, pvL, List.map_cons, List.map_nil, List.map_append, rune1, h2]; exact ⟨_, _, _, rfl⟩)
  · rintro s ⟨out_6, rfl, nx, g2, g7, rfl⟩
    try dsimp only at hh
    refine awp_seq ?_
    obtain ⟨⟨r_7, r_8⟩, h4, hh⟩ := bind_ex hh
    dsimp only at hh
    refine awp_first fun K kk hK => ?_
    simp only [go_sem]
    refine step_call2 (lens_Print_ok _ _ h4) (by (try simp only [go_sem]) <;> exact wkl) (by rfl) (by rfl) ?_
    simp only [go_sem]
    refine hK _ _ fun nx => ?_; clear hK K; try clear kk
    by_cases h5 : (!r_4) = true
    · rw [if_pos h5] at hh
      refine awp_first fun K kk hK => ?_
      simp only [go_sem, h5, h5]
      (repeat refine sd ?_)
      refine hK _ _ fun nx => ?_; clear hK K; try clear kk
      refine awp_true rfl ?_
      refine awp_first fun K kk hK => ?_
      simp only [go_sem]
      refine hK _ _ fun nx => ?_; clear hK K; try clear kk
      refine awp_ret ?_; refine nmx ?_
      obtain hR := Option.some.inj hh
      subst hR
      exact ret_p2
    · rw [if_neg h5] at hh
      replace h5 := Bool.eq_false_iff.mpr h5
      by_cases h6 : (!(r_3 == ([] : Str))) = true
      · rw [if_pos h6] at hh
        refine awp_first fun K kk hK => ?_
        simp only [go_sem, h5, h5, h6, h6]
        (repeat refine sd ?_)
        refine hK _ _ fun nx => ?_; clear hK K; try clear kk
        refine awp_true rfl ?_
        refine awp_first fun K kk hK => ?_
        simp only [go_sem]
        refine hK _ _ fun nx => ?_; clear hK K; try clear kk
        refine awp_ret ?_; refine nmx ?_
        obtain hR := Option.some.inj hh
        subst hR
        exact ret_p2
      · rw [if_neg h6] at hh
        replace h6 := Bool.eq_false_iff.mpr h6
        by_cases h7 : (r_8 != (0 : Int)) = true
        · rw [if_pos h7] at hh
          refine awp_first fun K kk hK => ?_
          simp only [go_sem, h5, h5, h6, h6, h7, h7]
          (repeat refine sd ?_)
          refine hK _ _ fun nx => ?_; clear hK K; try clear kk
          refine awp_true rfl ?_
          refine awp_first fun K kk hK => ?_
          simp only [go_sem]
          refine hK _ _ fun nx => ?_; clear hK K; try clear kk
          refine awp_ret ?_; refine nmx ?_
          obtain hR := Option.some.inj hh
          subst hR
          exact ret_p2
        · rw [if_neg h7] at hh
          replace h7 := Bool.eq_false_iff.mpr h7
          refine awp_first fun K kk hK => ?_
          simp only [go_sem, h5, h5, h6, h6, h7, h7]
          (repeat refine sd ?_)
          refine hK _ _ fun nx => ?_; clear hK K; try clear kk
          by_cases h8 : (!(r_7 == text_1)) = true
          · rw [if_pos h8] at hh
            refine awp_true (by first | exact congrArg PV.bool h8 | rfl) ?_
            refine awp_first fun K kk hK => ?_
            simp only [go_sem]
            refine hK _ _ fun nx => ?_; clear hK K; try clear kk
            refine awp_ret ?_; refine nmx ?_
            obtain hR := Option.some.inj hh
            subst hR
            exact ret_p2
          · rw [if_neg h8] at hh
            replace h8 := Bool.eq_false_iff.mpr h8
            refine awp_false (by first | exact congrArg PV.bool h8 | rfl) ?_
            refine awp_skip ?_; refine nmx ?_
            refine awp_first fun K kk hK => ?_
            simp only [go_sem]
            refine hK _ _ fun nx => ?_; clear hK K; try clear kk
            refine awp_ret ?_; refine nmx ?_
            obtain hR := Option.some.inj hh
            subst hR
            exact ret_p2
  · intro i s h; exact h.elim
  · intro s h; exact h.elim
theorem diptychlaw13_shown_ok (R : Bool) (hh : diptychlaw13_shown = some R) : PC Tryd.prog 24 [] (.bool R) := by
  rw [diptychlaw13_shown] at hh
  refine start_diptychlaw13_shown rfl ?_
  refine awp_first fun K kk hK => ?_
  simp only [go_sem]
  refine hK _ _ fun nx => ?_; clear hK K; try clear kk
  obtain ⟨⟨r_1, r_2⟩, h1, hh⟩ := bind_ex hh
  dsimp only at hh
  refine awp_first fun K kk hK => ?_
  simp only [go_sem]
  refine step_call2 (lens_Parse_ok _ _ h1) (by (try simp only [go_sem]) <;> exact wkl) (by rfl) (by rfl) ?_
  simp only [go_sem]
  refine hK _ _ fun nx => ?_; clear hK K; try clear kk
  obtain ⟨flat_3, h2, hh⟩ := bind_ex hh
  refine awp_first fun K kk hK => ?_
  simp only [go_sem]
  refine step_call2 (lens_Flat_ok _ _ h2).list (by (try simp only [go_sem]) <;> exact wkl) (by rfl) (by rfl) ?_
  simp only [go_sem]
  refine hK _ _ fun nx => ?_; clear hK K; try clear kk
  by_cases h3 : (r_2 == (0 : Int)) = true
  · rw [if_pos h3] at hh
    by_cases h4 : ((flat_3.length : Int) == (2 : Int)) = true
    · rw [if_pos h4] at hh
      obtain ⟨x_4, h5, hh⟩ := bind_ex hh
      obtain ⟨h5a, h5b, h5c⟩ := rd_some h5
      have h5d := rd_get (f := lens_Prim.pv) h5c
      have h5f := rd_more (f := lens_Prim.pv) h5c
      try simp only [Int.toNat_natCast, Int.reduceToNat] at h5d h5f
      by_cases h6 : (x_4.Op == (114 : Int)) = true
      · rw [if_pos h6] at hh
        by_cases h7 : (x_4.New == ([112] : Str)) = true
        · rw [if_pos h7] at hh
          obtain ⟨x_5, h8, hh⟩ := bind_ex hh
          obtain ⟨h8a, h8b, h8c⟩ := rd_some h8
          have h8d := rd_get (f := lens_Prim.pv) h8c
          have h8f := rd_more (f := lens_Prim.pv) h8c
          try simp only [Int.toNat_natCast, Int.reduceToNat] at h8d h8f
          by_cases h9 : (x_5.Op == (117 : Int)) = true
          · rw [if_pos h9] at hh
            by_cases h10 : (x_5.Kind == ([105, 116, 101, 109] : Str)) = true
            · rw [if_pos h10] at hh
              refine awp_first fun K kk hK => ?_
              simp only [go_sem, h3, h3, h4, h5a, h5b, h5d, h5f.1, h5f.2, h4, h6, h5a, h5b, h5d, h5f.1, h5f.2, h6, h7, h8a, h8b, h8d, h8f.1, h8f.2, h7, h9, h8a, h8b, h8d, h8f.1, h8f.2, h9, h10, h8a, h8b, h8d, h8f.1, h8f.2, h10]
              (repeat refine sd ?_)
              refine hK _ _ fun nx => ?_; clear hK K; try clear kk
              refine awp_ret ?_; refine nmx ?_
              obtain hR := Option.some.inj hh
              subst hR
              exact ret_p2
            · rw [if_neg h10] at hh
              replace h10 := Bool.eq_false_iff.mpr h10
              refine awp_first fun K kk hK => ?_
              simp only [go_sem, h3, h3, h4, h5a, h5b, h5d, h5f.1, h5f.2, h4, h6, h5a, h5b, h5d, h5f.1, h5f.2, h6, h7, h8a, h8b, h8d, h8f.1, h8f.2, h7, h9, h8a, h8b, h8d, h8f.1, h8f.2, h9, h10, h10]
              (repeat refine sd ?_)
              refine hK _ _ fun nx => ?_; clear hK K; try clear kk
              refine awp_ret ?_; refine nmx ?_
              obtain hR := Option.some.inj hh
              subst hR
              exact ret_p2
          · rw [if_neg h9] at hh
            replace h9 := Bool.eq_false_iff.mpr h9
            refine awp_first fun K kk hK => ?_
            simp only [go_sem, h3, h3, h4, h5a, h5b, h5d, h5f.1, h5f.2, h4, h6, h5a, h5b, h5d, h5f.1, h5f.2, h6, h7, h8a, h8b, h8d, h8f.1, h8f.2, h7, h9, h9]
            (repeat refine sd ?_)
            refine hK _ _ fun nx => ?_; clear hK K; try clear kk
            refine awp_ret ?_; refine nmx ?_
            obtain hR := Option.some.inj hh
            subst hR
            exact ret_p2
        · rw [if_neg h7] at hh
          replace h7 := Bool.eq_false_iff.mpr h7
          refine awp_first fun K kk hK => ?_
          simp only [go_sem, h3, h3, h4, h5a, h5b, h5d, h5f.1, h5f.2, h4, h6, h5a, h5b, h5d, h5f.1, h5f.2, h6, h7, h7]
          (repeat refine sd ?_)
          refine hK _ _ fun nx => ?_; clear hK K; try clear kk
          refine awp_ret ?_; refine nmx ?_
          obtain hR := Option.some.inj hh
          subst hR
          exact ret_p2
      · rw [if_neg h6] at hh
        replace h6 := Bool.eq_false_iff.mpr h6
        refine awp_first fun K kk hK => ?_
        simp only [go_sem, h3, h3, h4, h5a, h5b, h5d, h5f.1, h5f.2, h4, h6, h6]
        (repeat refine sd ?_)
        refine hK _ _ fun nx => ?_; clear hK K; try clear kk
        refine awp_ret ?_; refine nmx ?_
        obtain hR := Option.some.inj hh
        subst hR
        exact ret_p2
    · rw [if_neg h4] at hh
      replace h4 := Bool.eq_false_iff.mpr h4
      refine awp_first fun K kk hK => ?_
      simp only [go_sem, h3, h3, h4, h4]
      (repeat refine sd ?_)
      refine hK _ _ fun nx => ?_; clear hK K; try clear kk
      refine awp_ret ?_; refine nmx ?_
      obtain hR := Option.some.inj hh
      subst hR
      exact ret_p2
  · rw [if_neg h3] at hh
    replace h3 := Bool.eq_false_iff.mpr h3
    refine awp_first fun K kk hK => ?_
    simp only [go_sem, h3, h3]
    (repeat refine sd ?_)
    refine hK _ _ fun nx => ?_; clear hK K; try clear kk
    refine awp_ret ?_; refine nmx ?_
    obtain hR := Option.some.inj hh
    subst hR
    exact ret_p2

end Go.Proofs.YtpjdafhmneiohaaDoor
