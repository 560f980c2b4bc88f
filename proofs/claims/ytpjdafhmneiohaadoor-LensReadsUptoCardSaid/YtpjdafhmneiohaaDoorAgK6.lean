/- What the functions answer, the program answers (6). -/
import Derived.Test.YtpjdafhmneiohaaDoorAgC
import Derived.Test.YtpjdafhmneiohaaDoorAgF
import Derived.Test.YtpjdafhmneiohaaDoorAgK5
namespace Go.Proofs.YtpjdafhmneiohaaDoor
set_option linter.unusedSimpArgs false
set_option linter.unusedVariables false
open Go
set_option maxRecDepth 100000

theorem diptychref13_word_ok (p_1 : diptychref13_Prim) (R : Str) (hh : diptychref13_word p_1 = some R) : PC Tryd.prog 97 [.agg [.int .u8 p_1.Op, .str p_1.Kind, .str p_1.Name, .str p_1.New, .list 1 (p_1.Values.map PV.str), .list 1 (p_1.To.map PV.str)]] (.str R) := by
  rw [diptychref13_word] at hh
  refine start_diptychref13_word rfl ?_
  refine awp_first fun K kk hK => ?_
  simp only [go_sem]
  refine hK _ _ fun nx => ?_; clear hK K; try clear kk
  obtain ⟨row_2, h1, hh⟩ := bind_ex hh
  refine awp_first fun K kk hK => ?_
  simp only [go_sem]
  refine step_call2 (diptychref13_row_ok _ _ _ h1) (by (try simp only [go_sem]) <;> exact wkl) (by rfl) (by rfl) ?_
  simp only [go_sem]
  refine hK _ _ fun nx => ?_; clear hK K; try clear kk
  refine awp_seq ?_
  obtain ⟨e0, f0, hh⟩ := bind_ex hh
  refine awp_frag (fun s => ∃ v_3, v_3 = e0 ∧ ∃ (nx : Nat) (g1 : Nat), s = ⟨[(1, .box 1 g1 0), (3, .str v_3)], [(1, g1, .var 55 [.int .u8 p_1.Op, .str p_1.Kind, .str p_1.Name, .str p_1.New, .list 1 (p_1.Values.map PV.str), .list 1 (p_1.To.map PV.str)])], nx⟩)
    (fun i s => False)
    (fun s => False) ?_ ?_ ?_ ?_
  · have hh := f0
    refine awp_first fun K kk hK => ?_
    simp only [go_sem]
    refine hK _ _ fun nx => ?_; clear hK K; try clear kk
    by_cases h2 : (row_2 == ([] : Str)) = true
    · rw [if_pos h2] at hh
      refine awp_true (by first | exact congrArg PV.bool h2 | rfl) ?_
      refine awp_region fun K kk hK => ?_
      simp only [go_sem]
      refine hK _ _ fun nx => ?_; clear hK K; try clear kk
      refine nmx ?_
      refine fragN ?_
      refine cut_id ?_
      refine ⟨_, (Option.some.inj hh), ?_⟩
      first | exact ⟨_, _, rfl⟩ | (simp only [lens_Prim.pv_eq, lens_Lens.pv_eq, diptychref13_Prim.pv_eq, diptychref13_Lens.pv_eq, pvL, List.map_cons, List.map_nil, List.map_append, rune1]; exact ⟨_, _, rfl⟩) | (simp only [lens_Prim.pv_eq, lens_Lens.pv_eq, diptychref13_Prim.pv_eq, diptychref13_Lens.pv_eq, pvL, List.map_cons, List.map_nil, List.map_append, rune1, h2]; exact ⟨_, _, rfl⟩)
    · rw [if_neg h2] at hh
      replace h2 := Bool.eq_false_iff.mpr h2
      refine awp_false (by first | exact congrArg PV.bool h2 | rfl) ?_
      refine awp_skip ?_; refine nmx ?_
      refine fragN ?_
      refine cut_to (less_cut _ [1, 3] [1]) ?_
      refine ⟨_, (Option.some.inj hh), ?_⟩
      first | exact ⟨_, _, rfl⟩ | (simp only [lens_Prim.pv_eq, lens_Lens.pv_eq, diptychref13_Prim.pv_eq, diptychref13_Lens.pv_eq, pvL, List.map_cons, List.map_nil, List.map_append, rune1]; exact ⟨_, _, rfl⟩) | (simp only [lens_Prim.pv_eq, lens_Lens.pv_eq, diptychref13_Prim.pv_eq, diptychref13_Lens.pv_eq, pvL, List.map_cons, List.map_nil, List.map_append, rune1, h2]; exact ⟨_, _, rfl⟩)
  · rintro s ⟨v_3, rfl, nx, g1, rfl⟩
    try dsimp only at hh
    refine awp_seq ?_
    refine awp_first fun K kk hK => ?_
    simp only [go_sem]
    refine hK _ _ fun nx => ?_; clear hK K; try clear kk
    refine awp_block ?_
    refine awp_first fun K kk hK => ?_
    simp only [go_sem]
    refine hK _ _ fun nx => ?_; clear hK K; try clear kk
    by_cases h3 : (p_1.Op == (114 : Int)) = true
    · rw [if_pos h3] at hh
      refine awp_true (by first | exact congrArg PV.bool h3 | rfl) ?_
      obtain ⟨h4, hh⟩ := chk_some hh
      obtain ⟨h5, hh⟩ := chk_some hh
      obtain ⟨h6, hh⟩ := chk_some hh
      refine awp_first fun K kk hK => ?_
      simp only [go_sem, h4, h5, h6]
      (repeat refine sd ?_)
      refine hK _ _ fun nx => ?_; clear hK K; try clear kk
      refine awp_ret ?_; refine nmx ?_
      obtain hR := Option.some.inj hh
      subst hR
      exact ret_p2
    · rw [if_neg h3] at hh
      replace h3 := Bool.eq_false_iff.mpr h3
      refine awp_false (by first | exact congrArg PV.bool h3 | rfl) ?_
      refine awp_first fun K kk hK => ?_
      simp only [go_sem]
      refine hK _ _ fun nx => ?_; clear hK K; try clear kk
      by_cases h7 : (p_1.Op == (109 : Int)) = true
      · rw [if_pos h7] at hh
        refine awp_true (by first | exact congrArg PV.bool h7 | rfl) ?_
        obtain ⟨h8, hh⟩ := chk_some hh
        obtain ⟨h9, hh⟩ := chk_some hh
        obtain ⟨h10, hh⟩ := chk_some hh
        refine awp_first fun K kk hK => ?_
        simp only [go_sem, h8, h9, h10]
        (repeat refine sd ?_)
        refine hK _ _ fun nx => ?_; clear hK K; try clear kk
        refine awp_ret ?_; refine nmx ?_
        obtain hR := Option.some.inj hh
        subst hR
        exact ret_p2
      · rw [if_neg h7] at hh
        replace h7 := Bool.eq_false_iff.mpr h7
        refine awp_false (by first | exact congrArg PV.bool h7 | rfl) ?_
        refine awp_first fun K kk hK => ?_
        simp only [go_sem]
        refine hK _ _ fun nx => ?_; clear hK K; try clear kk
        by_cases h11 : (p_1.Op == (110 : Int)) = true
        · rw [if_pos h11] at hh
          refine awp_true (by first | exact congrArg PV.bool h11 | rfl) ?_
          obtain ⟨h12, hh⟩ := chk_some hh
          obtain ⟨h13, hh⟩ := chk_some hh
          obtain ⟨h14, hh⟩ := chk_some hh
          obtain ⟨h15, hh⟩ := chk_some hh
          obtain ⟨h16, hh⟩ := chk_some hh
          refine awp_first fun K kk hK => ?_
          simp only [go_sem, h12, h13, h14, h15, h16]
          (repeat refine sd ?_)
          refine hK _ _ fun nx => ?_; clear hK K; try clear kk
          refine awp_ret ?_; refine nmx ?_
          obtain hR := Option.some.inj hh
          subst hR
          exact ret_p2
        · rw [if_neg h11] at hh
          replace h11 := Bool.eq_false_iff.mpr h11
          refine awp_false (by first | exact congrArg PV.bool h11 | rfl) ?_
          refine awp_first fun K kk hK => ?_
          simp only [go_sem]
          refine hK _ _ fun nx => ?_; clear hK K; try clear kk
          by_cases h17 : (p_1.Op == (97 : Int)) = true
          · rw [if_pos h17] at hh
            refine awp_true (by first | exact congrArg PV.bool h17 | rfl) ?_
            obtain ⟨h18, hh⟩ := chk_some hh
            obtain ⟨h19, hh⟩ := chk_some hh
            obtain ⟨h20, hh⟩ := chk_some hh
            obtain ⟨h21, hh⟩ := chk_some hh
            obtain ⟨h22, hh⟩ := chk_some hh
            refine awp_first fun K kk hK => ?_
            simp only [go_sem, h18, h19, h20, h21, h22]
            (repeat refine sd ?_)
            refine hK _ _ fun nx => ?_; clear hK K; try clear kk
            refine awp_ret ?_; refine nmx ?_
            obtain hR := Option.some.inj hh
            subst hR
            exact ret_p2
          · rw [if_neg h17] at hh
            replace h17 := Bool.eq_false_iff.mpr h17
            refine awp_false (by first | exact congrArg PV.bool h17 | rfl) ?_
            refine awp_first fun K kk hK => ?_
            simp only [go_sem]
            refine hK _ _ fun nx => ?_; clear hK K; try clear kk
            by_cases h23 : (p_1.Op == (100 : Int)) = true
            · rw [if_pos h23] at hh
              refine awp_true (by first | exact congrArg PV.bool h23 | rfl) ?_
              obtain ⟨h24, hh⟩ := chk_some hh
              obtain ⟨h25, hh⟩ := chk_some hh
              obtain ⟨h26, hh⟩ := chk_some hh
              obtain ⟨h27, hh⟩ := chk_some hh
              obtain ⟨h28, hh⟩ := chk_some hh
              refine awp_first fun K kk hK => ?_
              simp only [go_sem, h24, h25, h26, h27, h28]
              (repeat refine sd ?_)
              refine hK _ _ fun nx => ?_; clear hK K; try clear kk
              refine awp_ret ?_; refine nmx ?_
              obtain hR := Option.some.inj hh
              subst hR
              exact ret_p2
            · rw [if_neg h23] at hh
              replace h23 := Bool.eq_false_iff.mpr h23
              refine awp_false (by first | exact congrArg PV.bool h23 | rfl) ?_
              refine awp_first fun K kk hK => ?_
              simp only [go_sem]
              refine hK _ _ fun nx => ?_; clear hK K; try clear kk
              by_cases h29 : (p_1.Op == (119 : Int)) = true
              · rw [if_pos h29] at hh
                refine awp_true (by first | exact congrArg PV.bool h29 | rfl) ?_
                obtain ⟨h30, hh⟩ := chk_some hh
                obtain ⟨h31, hh⟩ := chk_some hh
                obtain ⟨h32, hh⟩ := chk_some hh
                refine awp_first fun K kk hK => ?_
                simp only [go_sem, h30, h31, h32]
                (repeat refine sd ?_)
                refine hK _ _ fun nx => ?_; clear hK K; try clear kk
                refine awp_ret ?_; refine nmx ?_
                obtain hR := Option.some.inj hh
                subst hR
                exact ret_p2
              · rw [if_neg h29] at hh
                replace h29 := Bool.eq_false_iff.mpr h29
                refine awp_false (by first | exact congrArg PV.bool h29 | rfl) ?_
                refine awp_first fun K kk hK => ?_
                simp only [go_sem]
                refine hK _ _ fun nx => ?_; clear hK K; try clear kk
                by_cases h33 : (p_1.Op == (117 : Int)) = true
                · rw [if_pos h33] at hh
                  refine awp_true (by first | exact congrArg PV.bool h33 | rfl) ?_
                  obtain ⟨h34, hh⟩ := chk_some hh
                  obtain ⟨h35, hh⟩ := chk_some hh
                  obtain ⟨h36, hh⟩ := chk_some hh
                  refine awp_first fun K kk hK => ?_
                  simp only [go_sem, h34, h35, h36]
                  (repeat refine sd ?_)
                  refine hK _ _ fun nx => ?_; clear hK K; try clear kk
                  refine awp_ret ?_; refine nmx ?_
                  obtain hR := Option.some.inj hh
                  subst hR
                  exact ret_p2
                · rw [if_neg h33] at hh
                  replace h33 := Bool.eq_false_iff.mpr h33
                  refine awp_false (by first | exact congrArg PV.bool h33 | rfl) ?_
                  refine awp_first fun K kk hK => ?_
                  simp only [go_sem]
                  refine hK _ _ fun nx => ?_; clear hK K; try clear kk
                  by_cases h37 : (p_1.Op == (104 : Int)) = true
                  · rw [if_pos h37] at hh
                    refine awp_true (by first | exact congrArg PV.bool h37 | rfl) ?_
                    obtain ⟨h38, hh⟩ := chk_some hh
                    obtain ⟨h39, hh⟩ := chk_some hh
                    obtain ⟨h40, hh⟩ := chk_some hh
                    refine awp_first fun K kk hK => ?_
                    simp only [go_sem, h38, h39, h40]
                    (repeat refine sd ?_)
                    refine hK _ _ fun nx => ?_; clear hK K; try clear kk
                    refine awp_ret ?_; refine nmx ?_
                    obtain hR := Option.some.inj hh
                    subst hR
                    exact ret_p2
                  · rw [if_neg h37] at hh
                    replace h37 := Bool.eq_false_iff.mpr h37
                    refine awp_false (by first | exact congrArg PV.bool h37 | rfl) ?_
                    refine awp_first fun K kk hK => ?_
                    simp only [go_sem]
                    refine hK _ _ fun nx => ?_; clear hK K; try clear kk
                    by_cases h41 : (p_1.Op == (115 : Int)) = true
                    · rw [if_pos h41] at hh
                      refine awp_true (by first | exact congrArg PV.bool h41 | rfl) ?_
                      obtain ⟨h42, hh⟩ := chk_some hh
                      obtain ⟨h43, hh⟩ := chk_some hh
                      obtain ⟨h44, hh⟩ := chk_some hh
                      refine awp_first fun K kk hK => ?_
                      simp only [go_sem, h42, h43, h44]
                      (repeat refine sd ?_)
                      refine hK _ _ fun nx => ?_; clear hK K; try clear kk
                      refine awp_ret ?_; refine nmx ?_
                      obtain hR := Option.some.inj hh
                      subst hR
                      exact ret_p2
                    · rw [if_neg h41] at hh
                      replace h41 := Bool.eq_false_iff.mpr h41
                      refine awp_false (by first | exact congrArg PV.bool h41 | rfl) ?_
                      refine awp_skip ?_; refine nmx ?_
                      refine awp_first fun K kk hK => ?_
                      simp only [go_sem]
                      refine hK _ _ fun nx => ?_; clear hK K; try clear kk
                      refine awp_seq ?_
                      refine awp_first fun K kk hK => ?_
                      simp only [go_sem]
                      refine hK _ _ fun nx => ?_; clear hK K; try clear kk
                      obtain ⟨e1, f1, hh⟩ := bind_ex hh
                      obtain ⟨hlen1, f1⟩ := chk_some f1
                      refine awp_fragE (CutTo (fun s => ∃ l_17, l_17 = e1 ∧ ∃ (i_15 : Int) (v_16 : Bool) (nx : Nat) (g1 : Nat) (g4 : Nat), s = ⟨[(1, .box 1 g1 0), (4, .row 4 g4 l_17.length), (5, .int .i64 i_15), (115, .bool v_16)], [(1, g1, .var 55 [.int .u8 p_1.Op, .str p_1.Kind, .str p_1.Name, .str p_1.New, .list 1 (p_1.Values.map PV.str), .list 1 (p_1.To.map PV.str)]), (4, g4, .row false 1 (l_17.map PV.str))], nx⟩))
                        (fun i s => False)
                        (fun s => False) ?_ ?_ ?_ ?_
                      · refine awp_block ?_
                        refine awp_loopJ fun I hI => ?_
                        have key : ∀ (suf pre : List Str) (i_7 : Int) (l_8 : (List Str)), p_1.Values = pre ++ suf → i_7 = (pre.length : Int) → diptychref13_word_l1 p_1 suf i_7 l_8 = some e1 → ∀ (nx : Nat) (g1 : Nat) (g4 : Nat), I ⟨[(1, .box 1 g1 0), (4, .row 4 g4 l_8.length), (5, .int .i64 i_7)], [(1, g1, .var 55 [.int .u8 p_1.Op, .str p_1.Kind, .str p_1.Name, .str p_1.New, .list 1 (p_1.Values.map PV.str), .list 1 (p_1.To.map PV.str)]), (4, g4, .row false 1 (l_8.map PV.str))], nx⟩ := by
                          intro suf
                          induction suf with
                          | nil =>
                            intro pre i_7 l_8 hsplit hidx hh nx g1 g4
                            rw [diptychref13_word_l1] at hh
                            refine hI _ ?_
                            have h59 := walk_nil hsplit hidx
                            refine awp_seq ?_
                            refine awp_first fun K kk hK => ?_
                            simp only [go_sem, h59, of_decide_eq_false h59, h59, of_decide_eq_false h59]
                            (repeat refine sd ?_)
                            refine hK _ _ fun nx => ?_; clear hK K; try clear kk
                            refine awp_false rfl ?_
                            refine awp_exit ?_; refine nmx ?_
                            refine fragN ?_
                            refine cut_id ?_
                            refine ⟨_, (Option.some.inj hh), ?_⟩
                            first | exact ⟨_, _, _, _, _, rfl⟩ | (simp only [lens_Prim.pv_eq, lens_Lens.pv_eq, diptychref13_Prim.pv_eq, diptychref13_Lens.pv_eq, pvL, List.map_cons, List.map_nil, List.map_append, rune1]; exact ⟨_, _, _, _, _, rfl⟩) | (simp only [lens_Prim.pv_eq, lens_Lens.pv_eq, diptychref13_Prim.pv_eq, diptychref13_Lens.pv_eq, pvL, List.map_cons, List.map_nil, List.map_append, rune1, h11, h17, h23, h29, h3, h33, h37, h41, h59, h7]; exact ⟨_, _, _, _, _, rfl⟩)
                          | cons y_12 suf ih =>
                            intro pre i_7 l_8 hsplit hidx hh nx g1 g4
                            rw [diptychref13_word_l1] at hh
                            refine hI _ ?_
                            obtain ⟨hl1a, hl1b, hl1d, hl1w, h59⟩ := walk_cons (f := PV.str) hsplit hidx hlen1
                            refine awp_seq ?_
                            refine awp_first fun K kk hK => ?_
                            simp only [go_sem, h59, of_decide_eq_true h59, h59, of_decide_eq_true h59, hl1a, hl1b, hl1d, hl1w]
                            (repeat refine sd ?_)
                            refine hK _ _ fun nx => ?_; clear hK K; try clear kk
                            by_cases h60 : (decide (i_7 < (p_1.To.length : Int))) = true
                            · rw [if_pos h60] at hh
                              refine awp_true (by first | exact congrArg PV.bool h60 | rfl) ?_
                              refine awp_skip ?_; refine nmx ?_
                              refine awp_seq ?_
                              refine awp_block ?_
                              obtain ⟨h61, hh⟩ := chk_some hh
                              obtain ⟨x_13, h62, hh⟩ := bind_ex hh
                              obtain ⟨h62a, h62b, h62c⟩ := rd_some h62
                              have h62d := rd_get (f := PV.str) h62c
                              have h62f := rd_more (f := PV.str) h62c
                              try simp only [Int.toNat_natCast, Int.reduceToNat] at h62d h62f
                              obtain ⟨h63, hh⟩ := chk_some hh
                              obtain ⟨l_14, h64, hh⟩ := bind_ex hh
                              obtain ⟨h64a, h64c⟩ := app_some h64
                              have h64d := app_map (f := PV.str) h64c
                              have h64e := app_len h64c
                              try simp only [List.length_cons, List.length_nil, Nat.zero_add, Nat.reduceAdd] at h64a h64e
                              try simp only [h64e] at h64a
                              try simp only [List.map_cons, List.map_nil, List.nil_append, List.append_nil, List.cons_append, List.singleton_append, rune1, lens_Prim.pv_eq, lens_Lens.pv_eq, diptychref13_Prim.pv_eq, diptychref13_Lens.pv_eq, pvL] at h64d
                              refine awp_region fun K kk hK => ?_
                              simp only [go_sem, h61, h62a, h62b, h62d, h62f.1, h62f.2, h63, h64a, h64d, h64e, hl1a, hl1b, hl1d, hl1w]
                              (repeat refine sd ?_)
                              refine hK _ _ fun nx => ?_; clear hK K; try clear kk
                              refine nmx ?_
                              refine awp_region fun K kk hK => ?_
                              simp only [go_sem, hl1a, hl1b, hl1d, hl1w]
                              refine hK _ _ fun nx => ?_; clear hK K; try clear kk
                              refine nmx ?_
                              have ih' := ih (pre ++ [y_12]) (i_7 + 1) _ (by rw [hsplit]; simp) (by simp [hidx]) hh nx
                              refine cut_id ?_
                              first | exact ih' _ _ | (simp only [lens_Prim.pv_eq, lens_Lens.pv_eq, diptychref13_Prim.pv_eq, diptychref13_Lens.pv_eq, pvL, List.map_cons, List.map_nil, List.map_append, rune1, h64e] at ih' ⊢; exact ih' _ _) | (simp only [lens_Prim.pv_eq, lens_Lens.pv_eq, diptychref13_Prim.pv_eq, diptychref13_Lens.pv_eq, pvL, List.map_cons, List.map_nil, List.map_append, rune1, h64e, h11, h17, h23, h29, h3, h33, h37, h41, h59, h60, h7] at ih' ⊢; exact ih' _ _)
                            · rw [if_neg h60] at hh
                              replace h60 := Bool.eq_false_iff.mpr h60
                              refine awp_false (by first | exact congrArg PV.bool h60 | rfl) ?_
                              refine awp_exit ?_; refine nmx ?_
                              refine fragN ?_
                              refine cut_id ?_
                              refine ⟨_, (Option.some.inj hh), ?_⟩
                              first | exact ⟨_, _, _, _, _, rfl⟩ | (simp only [lens_Prim.pv_eq, lens_Lens.pv_eq, diptychref13_Prim.pv_eq, diptychref13_Lens.pv_eq, pvL, List.map_cons, List.map_nil, List.map_append, rune1]; exact ⟨_, _, _, _, _, rfl⟩) | (simp only [lens_Prim.pv_eq, lens_Lens.pv_eq, diptychref13_Prim.pv_eq, diptychref13_Lens.pv_eq, pvL, List.map_cons, List.map_nil, List.map_append, rune1, h11, h17, h23, h29, h3, h33, h37, h41, h59, h60, h7]; exact ⟨_, _, _, _, _, rfl⟩)
                        exact key p_1.Values [] _ _ rfl rfl f1 _ _ _
                      · rintro s ⟨t, hless, l_17, rfl, i_15, v_16, nx, g1, g4, rfl⟩
                        try dsimp only at hh
                        refine nmy ?_
                        first | (refine cut_less hless ?_; try refine cut_awp ?_) | refine frag_less hless ?_ | refine body_less hless ?_
                        obtain ⟨h65, hh⟩ := chk_some hh
                        obtain ⟨h66, hh⟩ := chk_some hh
                        obtain ⟨h67, hh⟩ := chk_some hh
                        obtain ⟨h68, hh⟩ := chk_some hh
                        obtain ⟨row_18, h69, hh⟩ := bind_ex hh
                        obtain ⟨h70, hh⟩ := chk_some hh
                        refine first_fact (.nrm 4 [some 1]) ?_
                        refine awp_first fun K kk hK => ?_
                        simp only [go_sem, h65, h66, h67, h68, h70]
                        (repeat refine sd ?_)
                        refine step_call2 (diptychref13_row_ok _ _ _ h69) (by (try simp only [go_sem, h65, h66, h67, h68, h70]) <;> exact wkl) (by rfl) (by rfl) ?_
                        simp only [go_sem, h65, h66, h67, h68, h70]
                        (repeat refine sd ?_)
                        refine hK _ _ fun nx => ?_; clear hK K; try clear kk
                        refine awp_ret ?_; refine nmx ?_
                        obtain hR := Option.some.inj hh
                        subst hR
                        exact ret_p2
                      · intro i s h; exact h.elim
                      · intro s h; exact h.elim
  · intro i s h; exact h.elim
  · intro s h; exact h.elim
theorem diptychref13_write_grp : ∀ kr : Nat, (∀ (l_1 : diptychref13_Lens) (R : Str), diptychref13_write_k kr l_1 = some R → PC Tryd.prog 71 [.agg [.int .u8 l_1.Prim.Op, .str l_1.Prim.Kind, .str l_1.Prim.Name, .str l_1.Prim.New, .list 1 (l_1.Prim.Values.map PV.str), .list 1 (l_1.Prim.To.map PV.str), .bool l_1.Turned, .list 8 (l_1.Kids.map diptychref13_Lens.pv)]] (.str R)) := by
  intro kr
  induction kr with
  | zero => exact (by intro l_1 R hh; rw [diptychref13_write_k] at hh; cases hh)
  | succ kr ih =>
    have ih_diptychref13_write := ih
    clear ih
    intro l_1 R hh
    rw [diptychref13_write_k] at hh
    refine start_diptychref13_write rfl ?_
    refine awp_first fun K kk hK => ?_
    simp only [go_sem]
    refine hK _ _ fun nx => ?_; clear hK K; try clear kk
    refine awp_seq ?_
    refine awp_first fun K kk hK => ?_
    simp only [go_sem]
    refine hK _ _ fun nx => ?_; clear hK K; try clear kk
    by_cases h1 : (l_1.Prim.Op != (0 : Int)) = true
    · rw [if_pos h1] at hh
      refine awp_true (by first | exact congrArg PV.bool h1 | rfl) ?_
      obtain ⟨word_2, h2, hh⟩ := bind_ex hh
      refine awp_first fun K kk hK => ?_
      simp only [go_sem]
      refine step_call2 (diptychref13_word_ok _ _ h2) (by (try simp only [go_sem]) <;> exact wkl) (by rfl) (by rfl) ?_
      simp only [go_sem]
      refine hK _ _ fun nx => ?_; clear hK K; try clear kk
      refine awp_ret ?_; refine nmx ?_
      obtain hR := Option.some.inj hh
      subst hR
      exact ret_p2
    · rw [if_neg h1] at hh
      replace h1 := Bool.eq_false_iff.mpr h1
      refine awp_false (by first | exact congrArg PV.bool h1 | rfl) ?_
      refine awp_skip ?_; refine nmx ?_
      refine awp_first fun K kk hK => ?_
      simp only [go_sem]
      refine hK _ _ fun nx => ?_; clear hK K; try clear kk
      refine awp_seq ?_
      refine awp_first fun K kk hK => ?_
      simp only [go_sem]
      refine hK _ _ fun nx => ?_; clear hK K; try clear kk
      obtain ⟨e0, f0, hh⟩ := bind_ex hh
      obtain ⟨hlen0, f0⟩ := chk_some f0
      refine awp_fragE (CutTo (fun s => ∃ k_16, k_16 = e0 ∧ ∃ (i_14 : Int) (v_15 : Bool) (nx : Nat) (g1 : Nat) (g3 : Nat), s = ⟨[(1, .box 1 g1 0), (3, .row 3 g3 k_16.length), (4, .int .i64 i_14), (16, .bool v_15)], [(1, g1, .var 58 [.int .u8 l_1.Prim.Op, .str l_1.Prim.Kind, .str l_1.Prim.Name, .str l_1.Prim.New, .list 1 (l_1.Prim.Values.map PV.str), .list 1 (l_1.Prim.To.map PV.str), .bool l_1.Turned, .list 8 (l_1.Kids.map diptychref13_Lens.pv)]), (3, g3, .row false 1 (k_16.map PV.str))], nx⟩))
        (fun i s => False)
        (fun s => False) ?_ ?_ ?_ ?_
      · refine awp_block ?_
        refine awp_loopJ fun I hI => ?_
        have key : ∀ (suf pre : List diptychref13_Lens) (i_6 : Int) (k_7 : (List Str)), l_1.Kids = pre ++ suf → i_6 = (pre.length : Int) → diptychref13_write_l0 (diptychref13_write_k kr) suf i_6 k_7 = some e0 → ∀ (nx : Nat) (g1 : Nat) (g3 : Nat), I ⟨[(1, .box 1 g1 0), (3, .row 3 g3 k_7.length), (4, .int .i64 i_6)], [(1, g1, .var 58 [.int .u8 l_1.Prim.Op, .str l_1.Prim.Kind, .str l_1.Prim.Name, .str l_1.Prim.New, .list 1 (l_1.Prim.Values.map PV.str), .list 1 (l_1.Prim.To.map PV.str), .bool l_1.Turned, .list 8 (l_1.Kids.map diptychref13_Lens.pv)]), (3, g3, .row false 1 (k_7.map PV.str))], nx⟩ := by
          intro suf
          induction suf with
          | nil =>
            intro pre i_6 k_7 hsplit hidx hh nx g1 g3
            rw [diptychref13_write_l0] at hh
            refine hI _ ?_
            have h11 := walk_nil hsplit hidx
            refine awp_seq ?_
            refine awp_first fun K kk hK => ?_
            simp only [go_sem]
            refine hK _ _ fun nx => ?_; clear hK K; try clear kk
            refine awp_false (by first | exact congrArg PV.bool h11 | rfl) ?_
            refine awp_exit ?_; refine nmx ?_
            refine fragN ?_
            refine cut_id ?_
            refine ⟨_, (Option.some.inj hh), ?_⟩
            first | exact ⟨_, _, _, _, _, rfl⟩ | (simp only [lens_Prim.pv_eq, lens_Lens.pv_eq, diptychref13_Prim.pv_eq, diptychref13_Lens.pv_eq, pvL, List.map_cons, List.map_nil, List.map_append, rune1]; exact ⟨_, _, _, _, _, rfl⟩) | (simp only [lens_Prim.pv_eq, lens_Lens.pv_eq, diptychref13_Prim.pv_eq, diptychref13_Lens.pv_eq, pvL, List.map_cons, List.map_nil, List.map_append, rune1, h1, h11]; exact ⟨_, _, _, _, _, rfl⟩)
          | cons y_11 suf ih =>
            intro pre i_6 k_7 hsplit hidx hh nx g1 g3
            rw [diptychref13_write_l0] at hh
            refine hI _ ?_
            obtain ⟨hl0a, hl0b, hl0d, hl0w, h11⟩ := walk_cons (f := diptychref13_Lens.pv) hsplit hidx hlen0
            refine awp_seq ?_
            refine awp_first fun K kk hK => ?_
            simp only [go_sem]
            refine hK _ _ fun nx => ?_; clear hK K; try clear kk
            refine awp_true (by first | exact congrArg PV.bool h11 | rfl) ?_
            refine awp_skip ?_; refine nmx ?_
            refine awp_seq ?_
            refine awp_block ?_
            obtain ⟨write_12, h12, hh⟩ := bind_ex hh
            obtain ⟨l_13, h13, hh⟩ := bind_ex hh
            obtain ⟨h13a, h13c⟩ := app_some h13
            have h13d := app_map (f := PV.str) h13c
            have h13e := app_len h13c
            try simp only [List.length_cons, List.length_nil, Nat.zero_add, Nat.reduceAdd] at h13a h13e
            try simp only [h13e] at h13a
            try simp only [List.map_cons, List.map_nil, List.nil_append, List.append_nil, List.cons_append, List.singleton_append, rune1, lens_Prim.pv_eq, lens_Lens.pv_eq, diptychref13_Prim.pv_eq, diptychref13_Lens.pv_eq, pvL] at h13d
            refine awp_region fun K kk hK => ?_
            simp only [go_sem, h13a, h13d, h13e, hl0a, hl0b, hl0d, hl0w]
            (repeat refine sd ?_)
            refine step_call2 (ih_diptychref13_write _ _ h12) (by (try simp only [go_sem, h13a, h13d, h13e, hl0a, hl0b, hl0d, hl0w]) <;> exact wkl) (by rfl) (by rfl) ?_
            simp only [go_sem, h13a, h13d, h13e, hl0a, hl0b, hl0d, hl0w]
            (repeat refine sd ?_)
            refine hK _ _ fun nx => ?_; clear hK K; try clear kk
            refine nmx ?_
            refine awp_region fun K kk hK => ?_
            simp only [go_sem, hl0a, hl0b, hl0d, hl0w]
            refine hK _ _ fun nx => ?_; clear hK K; try clear kk
            refine nmx ?_
            have ih' := ih (pre ++ [y_11]) (i_6 + 1) _ (by rw [hsplit]; simp) (by simp [hidx]) hh nx
            refine cut_id ?_
            first | exact ih' _ _ | (simp only [lens_Prim.pv_eq, lens_Lens.pv_eq, diptychref13_Prim.pv_eq, diptychref13_Lens.pv_eq, pvL, List.map_cons, List.map_nil, List.map_append, rune1, h13e] at ih' ⊢; exact ih' _ _) | (simp only [lens_Prim.pv_eq, lens_Lens.pv_eq, diptychref13_Prim.pv_eq, diptychref13_Lens.pv_eq, pvL, List.map_cons, List.map_nil, List.map_append, rune1, h13e, h1, h11] at ih' ⊢; exact ih' _ _)
        exact key l_1.Kids [] _ _ rfl rfl f0 _ _ _
      · rintro s ⟨t, hless, k_16, rfl, i_14, v_15, nx, g1, g3, rfl⟩
        try dsimp only at hh
        refine nmy ?_
        first | (refine cut_less hless ?_; try refine cut_awp ?_) | refine frag_less hless ?_ | refine body_less hless ?_
        refine awp_seq ?_
        refine awp_first fun K kk hK => ?_
        simp only [go_sem]
        refine hK _ _ fun nx => ?_; clear hK K; try clear kk
        by_cases h14 : (l_1.Turned) = true
        · rw [if_pos h14] at hh
          refine awp_true (by first | exact congrArg PV.bool h14 | rfl) ?_
          obtain ⟨row_17, h15, hh⟩ := bind_ex hh
          obtain ⟨h16, hh⟩ := chk_some hh
          obtain ⟨h17, hh⟩ := chk_some hh
          refine awp_first fun K kk hK => ?_
          simp only [go_sem, h16, h17]
          (repeat refine sd ?_)
          refine step_call2 (diptychref13_row_ok _ _ _ h15) (by (try simp only [go_sem, h16, h17]) <;> exact wkl) (by rfl) (by rfl) ?_
          simp only [go_sem, h16, h17]
          (repeat refine sd ?_)
          refine hK _ _ fun nx => ?_; clear hK K; try clear kk
          refine awp_ret ?_; refine nmx ?_
          obtain hR := Option.some.inj hh
          subst hR
          exact ret_p2
        · rw [if_neg h14] at hh
          replace h14 := Bool.eq_false_iff.mpr h14
          refine awp_false (by first | exact congrArg PV.bool h14 | rfl) ?_
          refine awp_skip ?_; refine nmx ?_
          obtain ⟨row_18, h18, hh⟩ := bind_ex hh
          refine awp_first fun K kk hK => ?_
          simp only [go_sem]
          refine step_call2 (diptychref13_row_ok _ _ _ h18) (by (try simp only [go_sem]) <;> exact wkl) (by rfl) (by rfl) ?_
          simp only [go_sem]
          refine hK _ _ fun nx => ?_; clear hK K; try clear kk
          refine awp_ret ?_; refine nmx ?_
          obtain hR := Option.some.inj hh
          subst hR
          exact ret_p2
      · intro i s h; exact h.elim
      · intro s h; exact h.elim
theorem diptychref13_write_ok (l_1 : diptychref13_Lens) (R : Str) (hh : diptychref13_write l_1 = some R) : PC Tryd.prog 71 [.agg [.int .u8 l_1.Prim.Op, .str l_1.Prim.Kind, .str l_1.Prim.Name, .str l_1.Prim.New, .list 1 (l_1.Prim.Values.map PV.str), .list 1 (l_1.Prim.To.map PV.str), .bool l_1.Turned, .list 8 (l_1.Kids.map diptychref13_Lens.pv)]] (.str R) := by
  rw [diptychref13_write] at hh
  obtain ⟨kr, hh⟩ := lim_some hh
  exact (diptychref13_write_grp kr) _ _ hh
theorem diptychref13_Print_ok (l_1 : diptychref13_Lens) (R : (Str × Int)) (hh : diptychref13_Print l_1 = some R) : PC Tryd.prog 28 [.agg [.int .u8 l_1.Prim.Op, .str l_1.Prim.Kind, .str l_1.Prim.Name, .str l_1.Prim.New, .list 1 (l_1.Prim.Values.map PV.str), .list 1 (l_1.Prim.To.map PV.str), .bool l_1.Turned, .list 8 (l_1.Kids.map diptychref13_Lens.pv)]] (.tup [.str R.1, .int .i64 R.2]) := by
  rw [diptychref13_Print] at hh
  refine start_diptychref13_Print rfl ?_
  refine awp_first fun K kk hK => ?_
  simp only [go_sem]
  refine hK _ _ fun nx => ?_; clear hK K; try clear kk
  refine awp_seq ?_
  obtain ⟨right_2, h1, hh⟩ := bind_ex hh
  refine awp_first fun K kk hK => ?_
  simp only [go_sem]
  refine step_call2 (diptychref13_Right_ok _ _ h1) (by (try simp only [go_sem]) <;> exact wkl) (by rfl) (by rfl) ?_
  simp only [go_sem]
  refine hK _ _ fun nx => ?_; clear hK K; try clear kk
  by_cases h2 : (!right_2) = true
  · rw [if_pos h2] at hh
    refine awp_true (by first | exact congrArg PV.bool h2 | rfl) ?_
    refine awp_first fun K kk hK => ?_
    simp only [go_sem]
    refine hK _ _ fun nx => ?_; clear hK K; try clear kk
    refine awp_ret ?_; refine nmx ?_
    obtain hR := Option.some.inj hh
    subst hR
    exact ret_p2
  · rw [if_neg h2] at hh
    replace h2 := Bool.eq_false_iff.mpr h2
    refine awp_false (by first | exact congrArg PV.bool h2 | rfl) ?_
    refine awp_skip ?_; refine nmx ?_
    obtain ⟨write_3, h3, hh⟩ := bind_ex hh
    refine awp_first fun K kk hK => ?_
    simp only [go_sem]
    refine step_call2 (diptychref13_write_ok _ _ h3) (by (try simp only [go_sem]) <;> exact wkl) (by rfl) (by rfl) ?_
    simp only [go_sem]
    refine hK _ _ fun nx => ?_; clear hK K; try clear kk
    refine awp_ret ?_; refine nmx ?_
    obtain hR := Option.some.inj hh
    subst hR
    exact ret_p2
theorem diptychlaw13_sameNames_ok (a_1 : (List Str)) (b_2 : (List Str)) (R : Bool) (hh : diptychlaw13_sameNames a_1 b_2 = some R) : PC Tryd.prog 76 [.list 1 (a_1.map PV.str), .list 1 (b_2.map PV.str)] (.bool R) := by
  rw [diptychlaw13_sameNames] at hh
  refine start_diptychlaw13_sameNames rfl ?_
  refine awp_first fun K kk hK => ?_
  simp only [go_sem]
  refine hK _ _ fun nx => ?_; clear hK K; try clear kk
  refine awp_seq ?_
  refine awp_first fun K kk hK => ?_
  simp only [go_sem]
  refine hK _ _ fun nx => ?_; clear hK K; try clear kk
  by_cases h1 : ((a_1.length : Int) != (b_2.length : Int)) = true
  · rw [if_pos h1] at hh
    refine awp_true (by first | exact congrArg PV.bool h1 | rfl) ?_
    refine awp_first fun K kk hK => ?_
    simp only [go_sem]
    refine hK _ _ fun nx => ?_; clear hK K; try clear kk
    refine awp_ret ?_; refine nmx ?_
    obtain hR := Option.some.inj hh
    subst hR
    exact ret_p2
  · rw [if_neg h1] at hh
    replace h1 := Bool.eq_false_iff.mpr h1
    refine awp_false (by first | exact congrArg PV.bool h1 | rfl) ?_
    refine awp_skip ?_; refine nmx ?_
    refine awp_seq ?_
    refine awp_first fun K kk hK => ?_
    simp only [go_sem]
    refine hK _ _ fun nx => ?_; clear hK K; try clear kk
    obtain ⟨e0, f0, hh⟩ := bind_ex hh
    obtain ⟨hlen0, f0⟩ := chk_some f0
    refine awp_fragE (CutTo (fun s => .inr () = e0 ∧ ∃ (i_11 : Int) (v_12 : Bool) (nx : Nat), s = ⟨[(0, .list 1 (a_1.map PV.str)), (1, .list 1 (b_2.map PV.str)), (5, .int .i64 i_11), (14, .bool v_12)], [], nx⟩))
      (fun i s => False)
      (fun s => ∃ res_10, .inl res_10 = e0 ∧ bodyR Tryd.prog [.tmp 4] (.bool res_10) [] .ret s) ?_ ?_ ?_ ?_
    · refine awp_block ?_
      refine awp_loopJ fun I hI => ?_
      have key : ∀ (suf pre : List Str) (i_5 : Int), a_1 = pre ++ suf → i_5 = (pre.length : Int) → diptychlaw13_sameNames_l0 b_2 suf i_5 = some e0 → ∀ (nx : Nat), I ⟨[(0, .list 1 (a_1.map PV.str)), (1, .list 1 (b_2.map PV.str)), (5, .int .i64 i_5)], [], nx⟩ := by
        intro suf
        induction suf with
        | nil =>
          intro pre i_5 hsplit hidx hh nx
          rw [diptychlaw13_sameNames_l0] at hh
          refine hI _ ?_
          have h10 := walk_nil hsplit hidx
          refine awp_seq ?_
          refine awp_first fun K kk hK => ?_
          simp only [go_sem]
          refine hK _ _ fun nx => ?_; clear hK K; try clear kk
          refine awp_false (by first | exact congrArg PV.bool h10 | rfl) ?_
          refine awp_exit ?_; refine nmx ?_
          refine fragN ?_
          refine cut_id ?_
          refine ⟨(Option.some.inj hh), ?_⟩
          first | exact ⟨_, _, _, rfl⟩ | (simp only [lens_Prim.pv_eq, lens_Lens.pv_eq, diptychref13_Prim.pv_eq, diptychref13_Lens.pv_eq, pvL, List.map_cons, List.map_nil, List.map_append, rune1]; exact ⟨_, _, _, rfl⟩) | (simp only [lens_Prim.pv_eq, lens_Lens.pv_eq, diptychref13_Prim.pv_eq, diptychref13_Lens.pv_eq, pvL, List.map_cons, List.map_nil, List.map_append, rune1, h1, h10]; exact ⟨_, _, _, rfl⟩)
        | cons y_8 suf ih =>
          intro pre i_5 hsplit hidx hh nx
          rw [diptychlaw13_sameNames_l0] at hh
          refine hI _ ?_
          obtain ⟨hl0a, hl0b, hl0d, hl0w, h10⟩ := walk_cons (f := PV.str) hsplit hidx hlen0
          refine awp_seq ?_
          refine awp_first fun K kk hK => ?_
          simp only [go_sem]
          refine hK _ _ fun nx => ?_; clear hK K; try clear kk
          refine awp_true (by first | exact congrArg PV.bool h10 | rfl) ?_
          refine awp_skip ?_; refine nmx ?_
          refine awp_seq ?_
          refine awp_block ?_
          obtain ⟨x_9, h11, hh⟩ := bind_ex hh
          obtain ⟨h11a, h11b, h11c⟩ := rd_some h11
          have h11d := rd_get (f := PV.str) h11c
          have h11f := rd_more (f := PV.str) h11c
          try simp only [Int.toNat_natCast, Int.reduceToNat] at h11d h11f
          refine awp_first fun K kk hK => ?_
          simp only [go_sem, h11a, h11b, h11d, h11f.1, h11f.2, hl0a, hl0b, hl0d, hl0w]
          (repeat refine sd ?_)
          refine hK _ _ fun nx => ?_; clear hK K; try clear kk
          by_cases h12 : (!(y_8 == x_9)) = true
          · rw [if_pos h12] at hh
            refine awp_true (by first | exact congrArg PV.bool h12 | rfl) ?_
            refine awp_first fun K kk hK => ?_
            simp only [go_sem, hl0a, hl0b, hl0d, hl0w]
            refine hK _ _ fun nx => ?_; clear hK K; try clear kk
            refine awp_ret ?_; refine nmx ?_
            refine fragR ⟨_, (Option.some.inj hh), ?_⟩
            exact ret_p2
          · rw [if_neg h12] at hh
            replace h12 := Bool.eq_false_iff.mpr h12
            refine awp_false (by first | exact congrArg PV.bool h12 | rfl) ?_
            refine awp_skip ?_; refine nmx ?_
            refine awp_region fun K kk hK => ?_
            simp only [go_sem, hl0a, hl0b, hl0d, hl0w]
            refine hK _ _ fun nx => ?_; clear hK K; try clear kk
            refine nmx ?_
            have ih' := ih (pre ++ [y_8]) (i_5 + 1) (by rw [hsplit]; simp) (by simp [hidx]) hh nx
            refine cut_id ?_
            first | exact ih' | (simp only [lens_Prim.pv_eq, lens_Lens.pv_eq, diptychref13_Prim.pv_eq, diptychref13_Lens.pv_eq, pvL, List.map_cons, List.map_nil, List.map_append, rune1] at ih' ⊢; exact ih') | (simp only [lens_Prim.pv_eq, lens_Lens.pv_eq, diptychref13_Prim.pv_eq, diptychref13_Lens.pv_eq, pvL, List.map_cons, List.map_nil, List.map_append, rune1, h1, h10, h12] at ih' ⊢; exact ih')
      exact key a_1 [] _ rfl rfl f0 _
    · rintro s ⟨t, hless, rfl, i_11, v_12, nx, rfl⟩
      try dsimp only at hh
      refine nmy ?_
      first | (refine cut_less hless ?_; try refine cut_awp ?_) | refine frag_less hless ?_ | refine body_less hless ?_
      refine awp_first fun K kk hK => ?_
      simp only [go_sem]
      refine hK _ _ fun nx => ?_; clear hK K; try clear kk
      refine awp_ret ?_; refine nmx ?_
      obtain hR := Option.some.inj hh
      subst hR
      exact ret_p2
    · intro i s h; exact h.elim
    · rintro s ⟨res_10, rfl, hb⟩
      try dsimp only at hh
      obtain hR := Option.some.inj hh
      subst hR
      refine nmx ?_
      exact hb
theorem diptychlaw13_samePrim_ok (a_1 : lens_Prim) (b_2 : diptychref13_Prim) (R : Bool) (hh : diptychlaw13_samePrim a_1 b_2 = some R) : PC Tryd.prog 31 [.agg [.int .u8 a_1.Op, .str a_1.Kind, .str a_1.Name, .str a_1.New, .list 1 (a_1.Values.map PV.str), .list 1 (a_1.To.map PV.str)], .agg [.int .u8 b_2.Op, .str b_2.Kind, .str b_2.Name, .str b_2.New, .list 1 (b_2.Values.map PV.str), .list 1 (b_2.To.map PV.str)]] (.bool R) := by
  rw [diptychlaw13_samePrim] at hh
  refine start_diptychlaw13_samePrim rfl ?_
  refine awp_first fun K kk hK => ?_
  simp only [go_sem]
  refine hK _ _ fun nx => ?_; clear hK K; try clear kk
  by_cases h1 : (a_1.Op == b_2.Op) = true
  · rw [if_pos h1] at hh
    by_cases h2 : (a_1.Kind == b_2.Kind) = true
    · rw [if_pos h2] at hh
      by_cases h3 : (a_1.Name == b_2.Name) = true
      · rw [if_pos h3] at hh
        by_cases h4 : (a_1.New == b_2.New) = true
        · rw [if_pos h4] at hh
          obtain ⟨samena_3, h5, hh⟩ := bind_ex hh
          by_cases h6 : (samena_3) = true
          · rw [if_pos h6] at hh
            obtain ⟨samena_4, h7, hh⟩ := bind_ex hh
            refine awp_first fun K kk hK => ?_
            simp only [go_sem, h1, h1, h2, h2, h3, h3, h4, h4, h6, h6]
            (repeat refine sd ?_)
            refine step_call2 (diptychlaw13_sameNames_ok _ _ _ h5) (by (try simp only [go_sem, h1, h1, h2, h2, h3, h3, h4, h4, h6, h6]) <;> exact wkl) (by rfl) (by rfl) ?_
            simp only [go_sem, h1, h1, h2, h2, h3, h3, h4, h4, h6, h6]
            (repeat refine sd ?_)
            refine step_call2 (diptychlaw13_sameNames_ok _ _ _ h7) (by (try simp only [go_sem, h1, h1, h2, h2, h3, h3, h4, h4, h6, h6]) <;> exact wkl) (by rfl) (by rfl) ?_
            simp only [go_sem, h1, h1, h2, h2, h3, h3, h4, h4, h6, h6]
            (repeat refine sd ?_)
            refine hK _ _ fun nx => ?_; clear hK K; try clear kk
            refine awp_ret ?_; refine nmx ?_
            obtain hR := Option.some.inj hh
            subst hR
            exact ret_p2
          · rw [if_neg h6] at hh
            replace h6 := Bool.eq_false_iff.mpr h6
            refine awp_first fun K kk hK => ?_
            simp only [go_sem, h1, h1, h2, h2, h3, h3, h4, h4, h6, h6]
            (repeat refine sd ?_)
            refine step_call2 (diptychlaw13_sameNames_ok _ _ _ h5) (by (try simp only [go_sem, h1, h1, h2, h2, h3, h3, h4, h4, h6, h6]) <;> exact wkl) (by rfl) (by rfl) ?_
            simp only [go_sem, h1, h1, h2, h2, h3, h3, h4, h4, h6, h6]
            (repeat refine sd ?_)
            refine hK _ _ fun nx => ?_; clear hK K; try clear kk
            refine awp_ret ?_; refine nmx ?_
            obtain hR := Option.some.inj hh
            subst hR
            exact ret_p2
        · rw [if_neg h4] at hh
          replace h4 := Bool.eq_false_iff.mpr h4
          refine awp_first fun K kk hK => ?_
          simp only [go_sem, h1, h1, h2, h2, h3, h3, h4, h4]
          (repeat refine sd ?_)
          refine hK _ _ fun nx => ?_; clear hK K; try clear kk
          refine awp_ret ?_; refine nmx ?_
          obtain hR := Option.some.inj hh
          subst hR
          exact ret_p2
      · rw [if_neg h3] at hh
        replace h3 := Bool.eq_false_iff.mpr h3
        refine awp_first fun K kk hK => ?_
        simp only [go_sem, h1, h1, h2, h2, h3, h3]
        (repeat refine sd ?_)
        refine hK _ _ fun nx => ?_; clear hK K; try clear kk
        refine awp_ret ?_; refine nmx ?_
        obtain hR := Option.some.inj hh
        subst hR
        exact ret_p2
    · rw [if_neg h2] at hh
      replace h2 := Bool.eq_false_iff.mpr h2
      refine awp_first fun K kk hK => ?_
      simp only [go_sem, h1, h1, h2, h2]
      (repeat refine sd ?_)
      refine hK _ _ fun nx => ?_; clear hK K; try clear kk
      refine awp_ret ?_; refine nmx ?_
      obtain hR := Option.some.inj hh
      subst hR
      exact ret_p2
  · rw [if_neg h1] at hh
    replace h1 := Bool.eq_false_iff.mpr h1
    refine awp_first fun K kk hK => ?_
    simp only [go_sem, h1, h1]
    (repeat refine sd ?_)
    refine hK _ _ fun nx => ?_; clear hK K; try clear kk
    refine awp_ret ?_; refine nmx ?_
    obtain hR := Option.some.inj hh
    subst hR
    exact ret_p2
theorem diptychref13_Turn_ok (p_1 : diptychref13_Prim) (R : diptychref13_Prim) (hh : diptychref13_Turn p_1 = some R) : PC Tryd.prog 33 [.agg [.int .u8 p_1.Op, .str p_1.Kind, .str p_1.Name, .str p_1.New, .list 1 (p_1.Values.map PV.str), .list 1 (p_1.To.map PV.str)]] (.agg [.int .u8 R.Op, .str R.Kind, .str R.Name, .str R.New, .list 1 (R.Values.map PV.str), .list 1 (R.To.map PV.str)]) := by
  rw [diptychref13_Turn] at hh
  refine start_diptychref13_Turn rfl ?_
  refine awp_first fun K kk hK => ?_
  simp only [go_sem]
  refine hK _ _ fun nx => ?_; clear hK K; try clear kk
  refine awp_seq ?_
  obtain ⟨e0, f0, hh⟩ := bind_ex hh
  refine awp_frag (fun s => ∃ p_3, p_3 = e0 ∧ ∃ (nx : Nat) (g1 : Nat) (g2 : Nat), s = ⟨[(1, .box 1 g1 0), (2, .box 2 g2 0)], [(1, g1, .var 55 [.int .u8 p_3.Op, .str p_3.Kind, .str p_3.Name, .str p_3.New, .list 1 (p_3.Values.map PV.str), .list 1 (p_3.To.map PV.str)]), (2, g2, .var 55 [.int .u8 (0 : Int), .str ([] : Str), .str ([] : Str), .str ([] : Str), .list 1 ([].map PV.str), .list 1 ([].map PV.str)])], nx⟩)
    (fun i s => False)
    (fun s => False) ?_ ?_ ?_ ?_
  · have hh := f0
    refine awp_first fun K kk hK => ?_
    simp only [go_sem]
    refine hK _ _ fun nx => ?_; clear hK K; try clear kk
    refine awp_block ?_
    refine awp_first fun K kk hK => ?_
    simp only [go_sem]
    refine hK _ _ fun nx => ?_; clear hK K; try clear kk
    by_cases h1 : (p_1.Op == (114 : Int)) = true
    · rw [if_pos h1] at hh
      refine awp_true (by first | exact congrArg PV.bool h1 | rfl) ?_
      refine awp_first fun K kk hK => ?_
      simp only [go_sem]
      refine hK _ _ fun nx => ?_; clear hK K; try clear kk
      refine awp_first fun K kk hK => ?_
      simp only [go_sem]
      refine hK _ _ fun nx => ?_; clear hK K; try clear kk
      refine awp_region fun K kk hK => ?_
      simp only [go_sem]
      refine hK _ _ fun nx => ?_; clear hK K; try clear kk
      refine nmx ?_
      refine fragN ?_
      refine cut_id ?_
      refine ⟨_, (Option.some.inj hh), ?_⟩
      first | exact ⟨_, _, _, rfl⟩ | (simp only [lens_Prim.pv_eq, lens_Lens.pv_eq, diptychref13_Prim.pv_eq, diptychref13_Lens.pv_eq, pvL, List.map_cons, List.map_nil, List.map_append, rune1]; exact ⟨_, _, _, rfl⟩) | (simp only [lens_Prim.pv_eq, lens_Lens.pv_eq, diptychref13_Prim.pv_eq, diptychref13_Lens.pv_eq, pvL, List.map_cons, List.map_nil, List.map_append, rune1, h1]; exact ⟨_, _, _, rfl⟩)
    · rw [if_neg h1] at hh
      replace h1 := Bool.eq_false_iff.mpr h1
      refine awp_false (by first | exact congrArg PV.bool h1 | rfl) ?_
      refine awp_seq ?_
      obtain ⟨e1, f1, hh⟩ := bind_ex hh
      refine awp_frag (fun s => ∃ v_2, v_2 = e1 ∧ ∃ (nx : Nat) (g1 : Nat) (g2 : Nat), s = ⟨[(1, .box 1 g1 0), (2, .box 2 g2 0), (11, .int .u8 p_1.Op), (21, .bool v_2)], [(1, g1, .var 55 [.int .u8 p_1.Op, .str p_1.Kind, .str p_1.Name, .str p_1.New, .list 1 (p_1.Values.map PV.str), .list 1 (p_1.To.map PV.str)]), (2, g2, .var 55 [.int .u8 (0 : Int), .str ([] : Str), .str ([] : Str), .str ([] : Str), .list 1 ([].map PV.str), .list 1 ([].map PV.str)])], nx⟩)
        (fun i s => False)
        (fun s => False) ?_ ?_ ?_ ?_
      · have hh := f1
        refine awp_first fun K kk hK => ?_
        simp only [go_sem]
        refine hK _ _ fun nx => ?_; clear hK K; try clear kk
        by_cases h2 : (p_1.Op == (109 : Int)) = true
        · rw [if_pos h2] at hh
          refine awp_true (by first | exact congrArg PV.bool h2 | rfl) ?_
          refine awp_skip ?_; refine nmx ?_
          refine fragN ?_
          refine cut_id ?_
          refine ⟨_, (Option.some.inj hh), ?_⟩
          first | exact ⟨_, _, _, rfl⟩ | (simp only [lens_Prim.pv_eq, lens_Lens.pv_eq, diptychref13_Prim.pv_eq, diptychref13_Lens.pv_eq, pvL, List.map_cons, List.map_nil, List.map_append, rune1]; exact ⟨_, _, _, rfl⟩) | (simp only [lens_Prim.pv_eq, lens_Lens.pv_eq, diptychref13_Prim.pv_eq, diptychref13_Lens.pv_eq, pvL, List.map_cons, List.map_nil, List.map_append, rune1, h1, h2]; exact ⟨_, _, _, rfl⟩)
        · rw [if_neg h2] at hh
          replace h2 := Bool.eq_false_iff.mpr h2
          refine awp_false (by first | exact congrArg PV.bool h2 | rfl) ?_
          refine awp_region fun K kk hK => ?_
          simp only [go_sem]
          refine hK _ _ fun nx => ?_; clear hK K; try clear kk
          refine nmx ?_
          refine fragN ?_
          refine cut_id ?_
          refine ⟨_, (Option.some.inj hh), ?_⟩
          first | exact ⟨_, _, _, rfl⟩ | (simp only [lens_Prim.pv_eq, lens_Lens.pv_eq, diptychref13_Prim.pv_eq, diptychref13_Lens.pv_eq, pvL, List.map_cons, List.map_nil, List.map_append, rune1]; exact ⟨_, _, _, rfl⟩) | (simp only [lens_Prim.pv_eq, lens_Lens.pv_eq, diptychref13_Prim.pv_eq, diptychref13_Lens.pv_eq, pvL, List.map_cons, List.map_nil, List.map_append, rune1, h1, h2]; exact ⟨_, _, _, rfl⟩)
      · rintro s ⟨v_2, rfl, nx, g1, g2, rfl⟩
        try dsimp only at hh
        by_cases h3 : (v_2) = true
        · rw [if_pos h3] at hh
          refine awp_true (by first | exact congrArg PV.bool h3 | rfl) ?_
          refine awp_first fun K kk hK => ?_
          simp only [go_sem]
          refine hK _ _ fun nx => ?_; clear hK K; try clear kk
          refine awp_first fun K kk hK => ?_
          simp only [go_sem]
          refine hK _ _ fun nx => ?_; clear hK K; try clear kk
          refine awp_region fun K kk hK => ?_
          simp only [go_sem]
          refine hK _ _ fun nx => ?_; clear hK K; try clear kk
          refine nmx ?_
          refine fragN ?_
          refine cut_id ?_
          refine ⟨_, (Option.some.inj hh), ?_⟩
          first | exact ⟨_, _, _, rfl⟩ | (simp only [lens_Prim.pv_eq, lens_Lens.pv_eq, diptychref13_Prim.pv_eq, diptychref13_Lens.pv_eq, pvL, List.map_cons, List.map_nil, List.map_append, rune1]; exact ⟨_, _, _, rfl⟩) | (simp only [lens_Prim.pv_eq, lens_Lens.pv_eq, diptychref13_Prim.pv_eq, diptychref13_Lens.pv_eq, pvL, List.map_cons, List.map_nil, List.map_append, rune1, h1, h3]; exact ⟨_, _, _, rfl⟩)
        · rw [if_neg h3] at hh
          replace h3 := Bool.eq_false_iff.mpr h3
          refine awp_false (by first | exact congrArg PV.bool h3 | rfl) ?_
          refine awp_first fun K kk hK => ?_
          simp only [go_sem]
          refine hK _ _ fun nx => ?_; clear hK K; try clear kk
          by_cases h4 : (p_1.Op == (116 : Int)) = true
          · rw [if_pos h4] at hh
            refine awp_true (by first | exact congrArg PV.bool h4 | rfl) ?_
            refine awp_first fun K kk hK => ?_
            simp only [go_sem]
            refine hK _ _ fun nx => ?_; clear hK K; try clear kk
            refine awp_first fun K kk hK => ?_
            simp only [go_sem]
            refine hK _ _ fun nx => ?_; clear hK K; try clear kk
            refine awp_region fun K kk hK => ?_
            simp only [go_sem]
            refine hK _ _ fun nx => ?_; clear hK K; try clear kk
            refine nmx ?_
            refine fragN ?_
            refine cut_id ?_
            refine ⟨_, (Option.some.inj hh), ?_⟩
            first | exact ⟨_, _, _, rfl⟩ | (simp only [lens_Prim.pv_eq, lens_Lens.pv_eq, diptychref13_Prim.pv_eq, diptychref13_Lens.pv_eq, pvL, List.map_cons, List.map_nil, List.map_append, rune1]; exact ⟨_, _, _, rfl⟩) | (simp only [lens_Prim.pv_eq, lens_Lens.pv_eq, diptychref13_Prim.pv_eq, diptychref13_Lens.pv_eq, pvL, List.map_cons, List.map_nil, List.map_append, rune1, h1, h3, h4]; exact ⟨_, _, _, rfl⟩)
          · rw [if_neg h4] at hh
            replace h4 := Bool.eq_false_iff.mpr h4
            refine awp_false (by first | exact congrArg PV.bool h4 | rfl) ?_
            refine awp_skip ?_; refine nmx ?_
            refine fragN ?_
            refine cut_to (less_cut _ [1, 2] [1, 2]) ?_
            refine ⟨_, (Option.some.inj hh), ?_⟩
            first | exact ⟨_, _, _, rfl⟩ | (simp only [lens_Prim.pv_eq, lens_Lens.pv_eq, diptychref13_Prim.pv_eq, diptychref13_Lens.pv_eq, pvL, List.map_cons, List.map_nil, List.map_append, rune1]; exact ⟨_, _, _, rfl⟩) | (simp only [lens_Prim.pv_eq, lens_Lens.pv_eq, diptychref13_Prim.pv_eq, diptychref13_Lens.pv_eq, pvL, List.map_cons, List.map_nil, List.map_append, rune1, h1, h3, h4]; exact ⟨_, _, _, rfl⟩)
      · intro i s h; exact h.elim
      · intro s h; exact h.elim
  · rintro s ⟨p_3, rfl, nx, g1, g2, rfl⟩
    try dsimp only at hh
    refine awp_first fun K kk hK => ?_
    simp only [go_sem]
    refine hK _ _ fun nx => ?_; clear hK K; try clear kk
    refine awp_first fun K kk hK => ?_
    simp only [go_sem]
    refine hK _ _ fun nx => ?_; clear hK K; try clear kk
    refine awp_first fun K kk hK => ?_
    simp only [go_sem]
    refine hK _ _ fun nx => ?_; clear hK K; try clear kk
    refine awp_seq ?_
    refine awp_first fun K kk hK => ?_
    simp only [go_sem]
    refine hK _ _ fun nx => ?_; clear hK K; try clear kk
    obtain ⟨e2, f2, hh⟩ := bind_ex hh
    refine awp_fragE (CutTo (fun s => ∃ op_6, op_6 = e2 ∧ ∃ (i_7 : Int) (v_8 : Bool) (nx : Nat) (g1 : Nat) (g2 : Nat), s = ⟨[(1, .box 1 g1 0), (2, .box 2 g2 0), (6, .str ([97, 100, 119, 117, 104, 115] : Str)), (7, .str ([100, 97, 117, 119, 115, 104] : Str)), (8, .int .u8 op_6), (9, .int .i64 i_7), (45, .bool v_8)], [(1, g1, .var 55 [.int .u8 p_3.Op, .str p_3.Kind, .str p_3.Name, .str p_3.New, .list 1 (p_3.Values.map PV.str), .list 1 (p_3.To.map PV.str)]), (2, g2, .var 55 [.int .u8 (0 : Int), .str ([] : Str), .str ([] : Str), .str ([] : Str), .list 1 ([].map PV.str), .list 1 ([].map PV.str)])], nx⟩))
      (fun i s => False)
      (fun s => False) ?_ ?_ ?_ ?_
    · refine awp_block ?_
      refine awp_loopJ fun I hI => ?_
      obtain ⟨k, f2⟩ := lim_some f2
      have key : ∀ (k : Nat) (op_4 : Int) (i_5 : Int), diptychref13_Turn_l2 p_3 k op_4 i_5 = some e2 → ∀ (nx : Nat) (g1 : Nat) (g2 : Nat), I ⟨[(1, .box 1 g1 0), (2, .box 2 g2 0), (6, .str ([97, 100, 119, 117, 104, 115] : Str)), (7, .str ([100, 97, 117, 119, 115, 104] : Str)), (8, .int .u8 op_4), (9, .int .i64 i_5)], [(1, g1, .var 55 [.int .u8 p_3.Op, .str p_3.Kind, .str p_3.Name, .str p_3.New, .list 1 (p_3.Values.map PV.str), .list 1 (p_3.To.map PV.str)]), (2, g2, .var 55 [.int .u8 (0 : Int), .str ([] : Str), .str ([] : Str), .str ([] : Str), .list 1 ([].map PV.str), .list 1 ([].map PV.str)])], nx⟩ := by
        intro k
        induction k with
        | zero => intro op_4 i_5 hh; rw [diptychref13_Turn_l2] at hh; cases hh
        | succ k ih =>
          intro op_4 i_5 hh nx g1 g2
          rw [diptychref13_Turn_l2] at hh
          refine hI _ ?_
          refine awp_seq ?_
          refine awp_first fun K kk hK => ?_
          simp only [go_sem]
          refine hK _ _ fun nx => ?_; clear hK K; try clear kk
          by_cases h9 : (decide (i_5 < (([97, 100, 119, 117, 104, 115] : Str).length : Int))) = true
          · rw [if_pos h9] at hh
            refine awp_true (by first | exact congrArg PV.bool h9 | rfl) ?_
            refine awp_skip ?_; refine nmx ?_
            refine awp_seq ?_
            refine awp_block ?_
            obtain ⟨h10, hh⟩ := chk_some hh
            refine awp_first fun K kk hK => ?_
            simp only [go_sem, h10.1, h10.2]
            (repeat refine sd ?_)
            refine hK _ _ fun nx => ?_; clear hK K; try clear kk
            by_cases h11 : (p_3.Op == ((([97, 100, 119, 117, 104, 115] : Str).getD i_5.toNat 0).toNat : Int)) = true
            · rw [if_pos h11] at hh
              refine awp_true (by first | exact congrArg PV.bool h11 | rfl) ?_
              obtain ⟨h12, hh⟩ := chk_some hh
              refine awp_region fun K kk hK => ?_
              simp only [go_sem, h12.1, h12.2]
              (repeat refine sd ?_)
              refine hK _ _ fun nx => ?_; clear hK K; try clear kk
              refine nmx ?_
              refine awp_region fun K kk hK => ?_
              simp only [go_sem]
              refine hK _ _ fun nx => ?_; clear hK K; try clear kk
              refine nmx ?_
              have ih' := ih _ _ hh nx
              refine cut_id ?_
              first | exact ih' _ _ | (simp only [lens_Prim.pv_eq, lens_Lens.pv_eq, diptychref13_Prim.pv_eq, diptychref13_Lens.pv_eq, pvL, List.map_cons, List.map_nil, List.map_append, rune1] at ih' ⊢; exact ih' _ _) | (simp only [lens_Prim.pv_eq, lens_Lens.pv_eq, diptychref13_Prim.pv_eq, diptychref13_Lens.pv_eq, pvL, List.map_cons, List.map_nil, List.map_append, rune1, h11, h9] at ih' ⊢; exact ih' _ _)
            · rw [if_neg h11] at hh
              replace h11 := Bool.eq_false_iff.mpr h11
              refine awp_false (by first | exact congrArg PV.bool h11 | rfl) ?_
              refine awp_skip ?_; refine nmx ?_
              refine awp_region fun K kk hK => ?_
              simp only [go_sem]
              refine hK _ _ fun nx => ?_; clear hK K; try clear kk
              refine nmx ?_
              have ih' := ih _ _ hh nx
              refine cut_id ?_
              first | exact ih' _ _ | (simp only [lens_Prim.pv_eq, lens_Lens.pv_eq, diptychref13_Prim.pv_eq, diptychref13_Lens.pv_eq, pvL, List.map_cons, List.map_nil, List.map_append, rune1] at ih' ⊢; exact ih' _ _) | (simp only [lens_Prim.pv_eq, lens_Lens.pv_eq, diptychref13_Prim.pv_eq, diptychref13_Lens.pv_eq, pvL, List.map_cons, List.map_nil, List.map_append, rune1, h11, h9] at ih' ⊢; exact ih' _ _)
          · rw [if_neg h9] at hh
            replace h9 := Bool.eq_false_iff.mpr h9
            refine awp_false (by first | exact congrArg PV.bool h9 | rfl) ?_
            refine awp_exit ?_; refine nmx ?_
            refine fragN ?_
            refine cut_id ?_
            refine ⟨_, (Option.some.inj hh), ?_⟩
            first | exact ⟨_, _, _, _, _, rfl⟩ | (simp only [lens_Prim.pv_eq, lens_Lens.pv_eq, diptychref13_Prim.pv_eq, diptychref13_Lens.pv_eq, pvL, List.map_cons, List.map_nil, List.map_append, rune1]; exact ⟨_, _, _, _, _, rfl⟩) | (simp only [lens_Prim.pv_eq, lens_Lens.pv_eq, diptychref13_Prim.pv_eq, diptychref13_Lens.pv_eq, pvL, List.map_cons, List.map_nil, List.map_append, rune1, h9]; exact ⟨_, _, _, _, _, rfl⟩)
      exact key _ _ _ f2 _ _ _
    · rintro s ⟨t, hless, op_6, rfl, i_7, v_8, nx, g1, g2, rfl⟩
      try dsimp only at hh
      refine nmy ?_
      first | (refine cut_less hless ?_; try refine cut_awp ?_) | refine frag_less hless ?_ | refine body_less hless ?_
      refine awp_first fun K kk hK => ?_
      simp only [go_sem]
      refine hK _ _ fun nx => ?_; clear hK K; try clear kk
      refine awp_first fun K kk hK => ?_
      simp only [go_sem]
      refine hK _ _ fun nx => ?_; clear hK K; try clear kk
      refine awp_ret ?_; refine nmx ?_
      obtain hR := Option.some.inj hh
      subst hR
      exact ret_p2
    · intro i s h; exact h.elim
    · intro s h; exact h.elim
  · intro i s h; exact h.elim
  · intro s h; exact h.elim

end Go.Proofs.YtpjdafhmneiohaaDoor
