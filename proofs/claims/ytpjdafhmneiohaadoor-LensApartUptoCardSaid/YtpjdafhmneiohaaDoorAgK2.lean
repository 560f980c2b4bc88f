/- What the functions answer, the program answers (2). -/
import Derived.Test.YtpjdafhmneiohaaDoorAgC
import Derived.Test.YtpjdafhmneiohaaDoorAgF
import Derived.Test.YtpjdafhmneiohaaDoorAgK1
import Derived.Test.YtpjdafhmneiohaaDoorAgL
namespace Go.Proofs.YtpjdafhmneiohaaDoor
set_option linter.unusedSimpArgs false
set_option linter.unusedVariables false
open Go
set_option maxRecDepth 100000

theorem lens_verb_ok (op_1 : Int) (R : Str) (hh : lens_verb op_1 = some R) : PC Tryd.prog 116 [.int .u8 op_1] (.str R) := by
  rw [lens_verb] at hh
  refine start_lens_verb rfl ?_
  refine awp_first fun K kk hK => ?_
  simp only [go_sem]
  refine hK _ _ fun nx => ?_; clear hK K; try clear kk
  refine awp_seq ?_
  refine awp_first fun K kk hK => ?_
  simp only [go_sem]
  refine hK _ _ fun nx => ?_; clear hK K; try clear kk
  obtain ⟨e0, f0, hh⟩ := bind_ex hh
  refine awp_fragE (CutTo (fun s => .inr () = e0 ∧ ∃ (v_8 : Int) (v_9 : Bool) (nx : Nat) (g5 : Nat), s = ⟨[(0, .int .u8 op_1), (5, .row 5 g5 [([114, 101, 110, 97, 109, 101] : Str), ([109, 97, 114, 107] : Str), ([97, 116, 116, 114] : Str), ([97, 100, 100] : Str), ([100, 114, 111, 112] : Str), ([116, 97, 98, 108, 101] : Str), ([119, 114, 97, 112] : Str), ([117, 110, 119, 114, 97, 112] : Str), ([104, 101, 97, 100] : Str), ([115, 112, 114, 101, 97, 100] : Str)].length), (6, .int .i64 ([([114, 101, 110, 97, 109, 101] : Str), ([109, 97, 114, 107] : Str), ([97, 116, 116, 114] : Str), ([97, 100, 100] : Str), ([100, 114, 111, 112] : Str), ([116, 97, 98, 108, 101] : Str), ([119, 114, 97, 112] : Str), ([117, 110, 119, 114, 97, 112] : Str), ([104, 101, 97, 100] : Str), ([115, 112, 114, 101, 97, 100] : Str)].length : Int)), (7, .int .i64 v_8), (8, .bool v_9)], [(5, g5, .row false 1 ([([114, 101, 110, 97, 109, 101] : Str), ([109, 97, 114, 107] : Str), ([97, 116, 116, 114] : Str), ([97, 100, 100] : Str), ([100, 114, 111, 112] : Str), ([116, 97, 98, 108, 101] : Str), ([119, 114, 97, 112] : Str), ([117, 110, 119, 114, 97, 112] : Str), ([104, 101, 97, 100] : Str), ([115, 112, 114, 101, 97, 100] : Str)].map PV.str))], nx⟩))
    (fun i s => False)
    (fun s => ∃ res_7, .inl res_7 = e0 ∧ bodyR Tryd.prog [.tmp 2] (.str res_7) [] .ret s) ?_ ?_ ?_ ?_
  · refine awp_block ?_
    refine awp_loopJ fun I hI => ?_
    obtain ⟨k, f0⟩ := lim_some f0
    have key : ∀ (k : Nat) (v_4 : Int), lens_verb_l0 op_1 k v_4 = some e0 → ∀ (nx : Nat) (g5 : Nat), I ⟨[(0, .int .u8 op_1), (5, .row 5 g5 [([114, 101, 110, 97, 109, 101] : Str), ([109, 97, 114, 107] : Str), ([97, 116, 116, 114] : Str), ([97, 100, 100] : Str), ([100, 114, 111, 112] : Str), ([116, 97, 98, 108, 101] : Str), ([119, 114, 97, 112] : Str), ([117, 110, 119, 114, 97, 112] : Str), ([104, 101, 97, 100] : Str), ([115, 112, 114, 101, 97, 100] : Str)].length), (6, .int .i64 ([([114, 101, 110, 97, 109, 101] : Str), ([109, 97, 114, 107] : Str), ([97, 116, 116, 114] : Str), ([97, 100, 100] : Str), ([100, 114, 111, 112] : Str), ([116, 97, 98, 108, 101] : Str), ([119, 114, 97, 112] : Str), ([117, 110, 119, 114, 97, 112] : Str), ([104, 101, 97, 100] : Str), ([115, 112, 114, 101, 97, 100] : Str)].length : Int)), (7, .int .i64 v_4)], [(5, g5, .row false 1 ([([114, 101, 110, 97, 109, 101] : Str), ([109, 97, 114, 107] : Str), ([97, 116, 116, 114] : Str), ([97, 100, 100] : Str), ([100, 114, 111, 112] : Str), ([116, 97, 98, 108, 101] : Str), ([119, 114, 97, 112] : Str), ([117, 110, 119, 114, 97, 112] : Str), ([104, 101, 97, 100] : Str), ([115, 112, 114, 101, 97, 100] : Str)].map PV.str))], nx⟩ := by
      intro k
      induction k with
      | zero => intro v_4 hh; rw [lens_verb_l0] at hh; cases hh
      | succ k ih =>
        intro v_4 hh nx g5
        rw [lens_verb_l0] at hh
        refine hI _ ?_
        refine awp_first fun K kk hK => ?_
        simp only [go_sem]
        refine hK _ _ fun nx => ?_; clear hK K; try clear kk
        refine awp_seq ?_
        by_cases h5 : (decide (v_4 < ([([114, 101, 110, 97, 109, 101] : Str), ([109, 97, 114, 107] : Str), ([97, 116, 116, 114] : Str), ([97, 100, 100] : Str), ([100, 114, 111, 112] : Str), ([116, 97, 98, 108, 101] : Str), ([119, 114, 97, 112] : Str), ([117, 110, 119, 114, 97, 112] : Str), ([104, 101, 97, 100] : Str), ([115, 112, 114, 101, 97, 100] : Str)].length : Int))) = true
        · rw [if_pos h5] at hh
          refine awp_true (by first | exact congrArg PV.bool h5 | rfl) ?_
          refine awp_skip ?_; refine nmx ?_
          refine awp_seq ?_
          refine awp_block ?_
          obtain ⟨x_5, h6, hh⟩ := bind_ex hh
          obtain ⟨h6a, h6b, h6c⟩ := rd_some h6
          have h6d := rd_get (f := PV.str) h6c
          have h6f := rd_more (f := PV.str) h6c
          try simp only [Int.toNat_natCast, Int.reduceToNat] at h6d h6f
          simp only [List.length_cons, List.length_nil, List.map_cons, List.map_nil, Nat.zero_add, Nat.reduceAdd, reduceCtorEq, not_false_eq_true, and_true, lens_Prim.pv_eq, lens_Lens.pv_eq, diptychref13_Prim.pv_eq, diptychref13_Lens.pv_eq, pvL] at h6b h6d h6f
          refine awp_first fun K kk hK => ?_
          simp only [go_sem, h6a, h6b, h6d, h6f]
          (repeat refine sd ?_)
          refine hK _ _ fun nx => ?_; clear hK K; try clear kk
          obtain ⟨opof_6, h7, hh⟩ := bind_ex hh
          refine awp_first fun K kk hK => ?_
          simp only [go_sem]
          refine step_call2 (lens_opOf_ok _ _ h7) (by (try simp only [go_sem]) <;> exact wkl) (by rfl) (by rfl) ?_
          simp only [go_sem]
          refine hK _ _ fun nx => ?_; clear hK K; try clear kk
          by_cases h8 : (opof_6 == op_1) = true
          · rw [if_pos h8] at hh
            refine awp_true (by first | exact congrArg PV.bool h8 | rfl) ?_
            refine awp_first fun K kk hK => ?_
            simp only [go_sem]
            refine hK _ _ fun nx => ?_; clear hK K; try clear kk
            refine awp_ret ?_; refine nmx ?_
            refine fragR ⟨_, (Option.some.inj hh), ?_⟩
            exact ret_p2
          · rw [if_neg h8] at hh
            replace h8 := Bool.eq_false_iff.mpr h8
            refine awp_false (by first | exact congrArg PV.bool h8 | rfl) ?_
            refine awp_skip ?_; refine nmx ?_
            refine awp_region fun K kk hK => ?_
            simp only [go_sem]
            refine hK _ _ fun nx => ?_; clear hK K; try clear kk
            refine nmx ?_
            have ih' := ih _ hh nx
            refine cut_id ?_
            first | exact ih' _ | (simp only [lens_Prim.pv_eq, lens_Lens.pv_eq, diptychref13_Prim.pv_eq, diptychref13_Lens.pv_eq, pvL, List.map_cons, List.map_nil, List.map_append, rune1] at ih' ⊢; exact ih' _) | (simp only [lens_Prim.pv_eq, lens_Lens.pv_eq, diptychref13_Prim.pv_eq, diptychref13_Lens.pv_eq, pvL, List.map_cons, List.map_nil, List.map_append, rune1, h5, h8] at ih' ⊢; exact ih' _)
        · rw [if_neg h5] at hh
          replace h5 := Bool.eq_false_iff.mpr h5
          refine awp_false (by first | exact congrArg PV.bool h5 | rfl) ?_
          refine awp_exit ?_; refine nmx ?_
          refine fragN ?_
          refine cut_id ?_
          refine ⟨(Option.some.inj hh), ?_⟩
          first | exact ⟨_, _, _, _, rfl⟩ | (simp only [lens_Prim.pv_eq, lens_Lens.pv_eq, diptychref13_Prim.pv_eq, diptychref13_Lens.pv_eq, pvL, List.map_cons, List.map_nil, List.map_append, rune1]; exact ⟨_, _, _, _, rfl⟩) | (simp only [lens_Prim.pv_eq, lens_Lens.pv_eq, diptychref13_Prim.pv_eq, diptychref13_Lens.pv_eq, pvL, List.map_cons, List.map_nil, List.map_append, rune1, h5]; exact ⟨_, _, _, _, rfl⟩)
    exact key _ _ f0 _ _
  · rintro s ⟨t, hless, rfl, v_8, v_9, nx, g5, rfl⟩
    try dsimp only at hh
    refine nmy ?_
    first | (refine cut_less hless ?_; try refine cut_awp ?_) | refine frag_less hless ?_ | refine body_less hless ?_
    refine awp_first fun K kk hK => ?_
    simp only [go_sem]
    refine hK _ _ fun nx => ?_; clear hK K; try clear kk
    refine awp_ret ?_; refine nmx ?_
    obtain hR := Option.some.inj hh
    subst hR
    exact ret_p2
  · intro i s h; exact h.elim
  · rintro s ⟨res_7, rfl, hb⟩
    try dsimp only at hh
    obtain hR := Option.some.inj hh
    subst hR
    refine nmx ?_
    exact hb
theorem strings_Join_ok (l : (List Str)) (sep : Str) (R : Str) (hh : strings_Join l sep = some R) : PC Tryd.prog 96 [.list 1 (l.map PV.str), .str sep] (.str R) := by
  rw [strings_Join] at hh
  exact lib_join ⟨_, Tryd.func96, by kernel_rfl, by kernel_rfl⟩ Tryd.strings_Join_none Tryd.strings_Join l sep R hh
theorem lens_Prim_text_ok (p_1 : lens_Prim) (R : Str) (hh : lens_Prim_text p_1 = some R) : PC Tryd.prog 95 [.agg [.int .u8 p_1.Op, .str p_1.Kind, .str p_1.Name, .str p_1.New, .list 1 (p_1.Values.map PV.str), .list 1 (p_1.To.map PV.str)]] (.str R) := by
  rw [lens_Prim_text] at hh
  refine start_lens_Prim_text rfl ?_
  refine awp_first fun K kk hK => ?_
  simp only [go_sem]
  refine hK _ _ fun nx => ?_; clear hK K; try clear kk
  obtain ⟨verb_2, h1, hh⟩ := bind_ex hh
  refine awp_first fun K kk hK => ?_
  simp only [go_sem]
  refine step_call2 (lens_verb_ok _ _ h1) (by (try simp only [go_sem]) <;> exact wkl) (by rfl) (by rfl) ?_
  simp only [go_sem]
  refine hK _ _ fun nx => ?_; clear hK K; try clear kk
  refine awp_seq ?_
  refine awp_first fun K kk hK => ?_
  simp only [go_sem]
  refine hK _ _ fun nx => ?_; clear hK K; try clear kk
  obtain ⟨e0, f0, hh⟩ := bind_ex hh
  refine awp_fragE (CutTo (fun s => ∃ words_11, words_11 = e0 ∧ ∃ (v_9 : Int) (v_10 : Bool) (nx : Nat) (g1 : Nat) (g3 : Nat) (g20 : Nat), s = ⟨[(1, .box 1 g1 0), (3, .row 3 g3 words_11.length), (20, .row 20 g20 [p_1.Kind, p_1.Name, p_1.New].length), (21, .int .i64 ([p_1.Kind, p_1.Name, p_1.New].length : Int)), (22, .int .i64 v_9), (23, .bool v_10)], [(1, g1, .var 50 [.int .u8 p_1.Op, .str p_1.Kind, .str p_1.Name, .str p_1.New, .list 1 (p_1.Values.map PV.str), .list 1 (p_1.To.map PV.str)]), (3, g3, .row false 1 (words_11.map PV.str)), (20, g20, .row false 1 ([p_1.Kind, p_1.Name, p_1.New].map PV.str))], nx⟩))
    (fun i s => False)
    (fun s => False) ?_ ?_ ?_ ?_
  · refine awp_block ?_
    refine awp_loopJ fun I hI => ?_
    obtain ⟨k, f0⟩ := lim_some f0
    have key : ∀ (k : Nat) (v_5 : Int) (words_6 : (List Str)), lens_Prim_text_l0 p_1 k v_5 words_6 = some e0 → ∀ (nx : Nat) (g1 : Nat) (g3 : Nat) (g20 : Nat), I ⟨[(1, .box 1 g1 0), (3, .row 3 g3 words_6.length), (20, .row 20 g20 [p_1.Kind, p_1.Name, p_1.New].length), (21, .int .i64 ([p_1.Kind, p_1.Name, p_1.New].length : Int)), (22, .int .i64 v_5)], [(1, g1, .var 50 [.int .u8 p_1.Op, .str p_1.Kind, .str p_1.Name, .str p_1.New, .list 1 (p_1.Values.map PV.str), .list 1 (p_1.To.map PV.str)]), (3, g3, .row false 1 (words_6.map PV.str)), (20, g20, .row false 1 ([p_1.Kind, p_1.Name, p_1.New].map PV.str))], nx⟩ := by
      intro k
      induction k with
      | zero => intro v_5 words_6 hh; rw [lens_Prim_text_l0] at hh; cases hh
      | succ k ih =>
        intro v_5 words_6 hh nx g1 g3 g20
        rw [lens_Prim_text_l0] at hh
        refine hI _ ?_
        refine awp_first fun K kk hK => ?_
        simp only [go_sem]
        refine hK _ _ fun nx => ?_; clear hK K; try clear kk
        refine awp_seq ?_
        by_cases h6 : (decide (v_5 < ([p_1.Kind, p_1.Name, p_1.New].length : Int))) = true
        · rw [if_pos h6] at hh
          refine awp_true (by first | exact congrArg PV.bool h6 | rfl) ?_
          refine awp_skip ?_; refine nmx ?_
          refine awp_seq ?_
          refine awp_block ?_
          obtain ⟨x_7, h7, hh⟩ := bind_ex hh
          obtain ⟨h7a, h7b, h7c⟩ := rd_some h7
          have h7d := rd_get (f := PV.str) h7c
          have h7f := rd_more (f := PV.str) h7c
          try simp only [Int.toNat_natCast, Int.reduceToNat] at h7d h7f
          simp only [List.length_cons, List.length_nil, List.map_cons, List.map_nil, Nat.zero_add, Nat.reduceAdd, reduceCtorEq, not_false_eq_true, and_true, lens_Prim.pv_eq, lens_Lens.pv_eq, diptychref13_Prim.pv_eq, diptychref13_Lens.pv_eq, pvL] at h7b h7d h7f
          refine awp_first fun K kk hK => ?_
          simp only [go_sem, h7a, h7b, h7d, h7f]
          (repeat refine sd ?_)
          refine hK _ _ fun nx => ?_; clear hK K; try clear kk
          refine awp_first fun K kk hK => ?_
          simp only [go_sem]
          refine hK _ _ fun nx => ?_; clear hK K; try clear kk
          by_cases h8 : (!(x_7 == ([] : Str))) = true
          · rw [if_pos h8] at hh
            refine awp_true (by first | exact congrArg PV.bool h8 | rfl) ?_
            obtain ⟨l_8, h9, hh⟩ := bind_ex hh
            obtain ⟨h9a, h9c⟩ := app_some h9
            have h9d := app_map (f := PV.str) h9c
            have h9e := app_len h9c
            try simp only [List.length_cons, List.length_nil, Nat.zero_add, Nat.reduceAdd] at h9a h9e
            try simp only [h9e] at h9a
            try simp only [List.map_cons, List.map_nil, List.nil_append, List.append_nil, List.cons_append, List.singleton_append, rune1, lens_Prim.pv_eq, lens_Lens.pv_eq, diptychref13_Prim.pv_eq, diptychref13_Lens.pv_eq, pvL] at h9d
            refine awp_region fun K kk hK => ?_
            simp only [go_sem, h9a, h9d, h9e]
            (repeat refine sd ?_)
            refine hK _ _ fun nx => ?_; clear hK K; try clear kk
            refine nmx ?_
            refine awp_region fun K kk hK => ?_
            simp only [go_sem]
            refine hK _ _ fun nx => ?_; clear hK K; try clear kk
            refine nmx ?_
            have ih' := ih _ _ hh nx
            refine cut_id ?_
            first | exact ih' _ _ _ | (simp only [lens_Prim.pv_eq, lens_Lens.pv_eq, diptychref13_Prim.pv_eq, diptychref13_Lens.pv_eq, pvL, List.map_cons, List.map_nil, List.map_append, rune1, h9e] at ih' ⊢; exact ih' _ _ _) | (simp only [lens_Prim.pv_eq, lens_Lens.pv_eq, diptychref13_Prim.pv_eq, diptychref13_Lens.pv_eq, pvL, List.map_cons, List.map_nil, List.map_append, rune1, h9e, h6, h8] at ih' ⊢; exact ih' _ _ _)
          · rw [if_neg h8] at hh
            replace h8 := Bool.eq_false_iff.mpr h8
            refine awp_false (by first | exact congrArg PV.bool h8 | rfl) ?_
            refine awp_skip ?_; refine nmx ?_
            refine awp_region fun K kk hK => ?_
            simp only [go_sem]
            refine hK _ _ fun nx => ?_; clear hK K; try clear kk
            refine nmx ?_
            have ih' := ih _ _ hh nx
            refine cut_id ?_
            first | exact ih' _ _ _ | (simp only [lens_Prim.pv_eq, lens_Lens.pv_eq, diptychref13_Prim.pv_eq, diptychref13_Lens.pv_eq, pvL, List.map_cons, List.map_nil, List.map_append, rune1] at ih' ⊢; exact ih' _ _ _) | (simp only [lens_Prim.pv_eq, lens_Lens.pv_eq, diptychref13_Prim.pv_eq, diptychref13_Lens.pv_eq, pvL, List.map_cons, List.map_nil, List.map_append, rune1, h6, h8] at ih' ⊢; exact ih' _ _ _)
        · rw [if_neg h6] at hh
          replace h6 := Bool.eq_false_iff.mpr h6
          refine awp_false (by first | exact congrArg PV.bool h6 | rfl) ?_
          refine awp_exit ?_; refine nmx ?_
          refine fragN ?_
          refine cut_id ?_
          refine ⟨_, (Option.some.inj hh), ?_⟩
          first | exact ⟨_, _, _, _, _, _, rfl⟩ | (simp only [lens_Prim.pv_eq, lens_Lens.pv_eq, diptychref13_Prim.pv_eq, diptychref13_Lens.pv_eq, pvL, List.map_cons, List.map_nil, List.map_append, rune1]; exact ⟨_, _, _, _, _, _, rfl⟩) | (simp only [lens_Prim.pv_eq, lens_Lens.pv_eq, diptychref13_Prim.pv_eq, diptychref13_Lens.pv_eq, pvL, List.map_cons, List.map_nil, List.map_append, rune1, h6]; exact ⟨_, _, _, _, _, _, rfl⟩)
    exact key _ _ _ f0 _ _ _ _
  · rintro s ⟨t, hless, words_11, rfl, v_9, v_10, nx, g1, g3, g20, rfl⟩
    try dsimp only at hh
    refine nmy ?_
    first | (refine cut_less hless ?_; try refine cut_awp ?_) | refine frag_less hless ?_ | refine body_less hless ?_
    refine awp_seq ?_
    refine awp_first fun K kk hK => ?_
    simp only [go_sem]
    refine hK _ _ fun nx => ?_; clear hK K; try clear kk
    refine awp_block ?_
    refine awp_seq ?_
    obtain ⟨e1, f1, hh⟩ := bind_ex hh
    refine awp_frag (fun s => ∃ v_12, v_12 = e1 ∧ ∃ (nx : Nat) (g1 : Nat) (g3 : Nat), s = ⟨[(1, .box 1 g1 0), (3, .row 3 g3 words_11.length), (34, .int .u8 p_1.Op), (35, .bool v_12)], [(1, g1, .var 50 [.int .u8 p_1.Op, .str p_1.Kind, .str p_1.Name, .str p_1.New, .list 1 (p_1.Values.map PV.str), .list 1 (p_1.To.map PV.str)]), (3, g3, .row false 1 (words_11.map PV.str))], nx⟩)
      (fun i s => False)
      (fun s => False) ?_ ?_ ?_ ?_
    · have hh := f1
      refine awp_first fun K kk hK => ?_
      simp only [go_sem]
      refine hK _ _ fun nx => ?_; clear hK K; try clear kk
      by_cases h10 : (p_1.Op == (97 : Int)) = true
      · rw [if_pos h10] at hh
        refine awp_true (by first | exact congrArg PV.bool h10 | rfl) ?_
        refine awp_skip ?_; refine nmx ?_
        refine fragN ?_
        refine cut_id ?_
        refine ⟨_, (Option.some.inj hh), ?_⟩
        first | exact ⟨_, _, _, rfl⟩ | (simp only [lens_Prim.pv_eq, lens_Lens.pv_eq, diptychref13_Prim.pv_eq, diptychref13_Lens.pv_eq, pvL, List.map_cons, List.map_nil, List.map_append, rune1]; exact ⟨_, _, _, rfl⟩) | (simp only [lens_Prim.pv_eq, lens_Lens.pv_eq, diptychref13_Prim.pv_eq, diptychref13_Lens.pv_eq, pvL, List.map_cons, List.map_nil, List.map_append, rune1, h10]; exact ⟨_, _, _, rfl⟩)
      · rw [if_neg h10] at hh
        replace h10 := Bool.eq_false_iff.mpr h10
        refine awp_false (by first | exact congrArg PV.bool h10 | rfl) ?_
        refine awp_region fun K kk hK => ?_
        simp only [go_sem]
        refine hK _ _ fun nx => ?_; clear hK K; try clear kk
        refine nmx ?_
        refine fragN ?_
        refine cut_id ?_
        refine ⟨_, (Option.some.inj hh), ?_⟩
        first | exact ⟨_, _, _, rfl⟩ | (simp only [lens_Prim.pv_eq, lens_Lens.pv_eq, diptychref13_Prim.pv_eq, diptychref13_Lens.pv_eq, pvL, List.map_cons, List.map_nil, List.map_append, rune1]; exact ⟨_, _, _, rfl⟩) | (simp only [lens_Prim.pv_eq, lens_Lens.pv_eq, diptychref13_Prim.pv_eq, diptychref13_Lens.pv_eq, pvL, List.map_cons, List.map_nil, List.map_append, rune1, h10]; exact ⟨_, _, _, rfl⟩)
    · rintro s ⟨v_12, rfl, nx, g1, g3, rfl⟩
      try dsimp only at hh
      by_cases h11 : (v_12) = true
      · rw [if_pos h11] at hh
        refine awp_true (by first | exact congrArg PV.bool h11 | rfl) ?_
        obtain ⟨join_13, h12, hh⟩ := bind_ex hh
        refine awp_first fun K kk hK => ?_
        simp only [go_sem]
        refine step_call2 (strings_Join_ok _ _ _ h12) (by (try simp only [go_sem]) <;> exact wkl) (by rfl) (by rfl) ?_
        simp only [go_sem]
        refine hK _ _ fun nx => ?_; clear hK K; try clear kk
        refine awp_seq ?_
        refine awp_first fun K kk hK => ?_
        simp only [go_sem]
        refine hK _ _ fun nx => ?_; clear hK K; try clear kk
        by_cases h13 : (join_13 == ([] : Str)) = true
        · rw [if_pos h13] at hh
          refine awp_true (by first | exact congrArg PV.bool h13 | rfl) ?_
          refine awp_region fun K kk hK => ?_
          simp only [go_sem]
          refine hK _ _ fun nx => ?_; clear hK K; try clear kk
          refine nmx ?_
          obtain ⟨x_14, h14, hh⟩ := bind_ex hh
          obtain ⟨h14a, h14b, h14c⟩ := rd_some h14
          have h14d := rd_get (f := PV.str) h14c
          have h14f := rd_more (f := PV.str) h14c
          try simp only [Int.toNat_natCast, Int.reduceToNat] at h14d h14f
          obtain ⟨h15, hh⟩ := chk_some hh
          obtain ⟨h16, hh⟩ := chk_some hh
          obtain ⟨l_15, h17, hh⟩ := bind_ex hh
          obtain ⟨h17a, h17c⟩ := wr_some h17
          have h17d := wr_map (f := PV.str) h17c
          try simp only [Int.toNat_natCast, Int.reduceToNat, List.map_cons, List.map_nil, List.cons_append, List.nil_append, List.singleton_append, lens_Prim.pv_eq, lens_Lens.pv_eq, diptychref13_Prim.pv_eq, diptychref13_Lens.pv_eq, pvL] at h17d
          have h17e := wr_len h17c
          have h14b_h17 := h14b; rw [h17e] at h14b_h17
          have h14f1_h17 := h14f.1; rw [h17e] at h14f1_h17
          have h14a_h17 := h14a; try rw [h17e] at h14a_h17
          have h14d_h17 := h14d; try rw [h17e] at h14d_h17
          try rw [h17e] at h17d
          have h17bw := h17a.2; rw [h17e] at h17bw
          refine awp_region fun K kk hK => ?_
          simp only [go_sem, h14a, h14b, h14d, h14f.1, h14f.2, h15, h16, h14a, h14b, h14d, h14f.1, h14f.2, h17a.1, h17a.2, h17d, h17e, h14b_h17, h14f1_h17, h14a_h17, h14d_h17, h17bw]
          (repeat refine sd ?_)
          try simp only [go_sem, h14a, h14b, h14d, h14f.1, h14f.2, h15, h16, h14a, h14b, h14d, h14f.1, h14f.2, h17a.1, h17a.2, h17d, h17e, h14b_h17, h14f1_h17, h14a_h17, h14d_h17, h17bw]
          refine hK _ _ fun nx => ?_; clear hK K; try clear kk
          refine nmx ?_
          obtain ⟨join_16, h18, hh⟩ := bind_ex hh
          refine awp_first fun K kk hK => ?_
          simp only [go_sem]
          refine step_call2 (strings_Join_ok _ _ _ h18) (by (try simp only [go_sem]) <;> exact wkl) (by rfl) (by rfl) ?_
          simp only [go_sem]
          refine hK _ _ fun nx => ?_; clear hK K; try clear kk
          refine awp_ret ?_; refine nmx ?_
          obtain hR := Option.some.inj hh
          subst hR
          exact ret_p2
        · rw [if_neg h13] at hh
          replace h13 := Bool.eq_false_iff.mpr h13
          refine awp_false (by first | exact congrArg PV.bool h13 | rfl) ?_
          refine awp_skip ?_; refine nmx ?_
          obtain ⟨x_17, h19, hh⟩ := bind_ex hh
          obtain ⟨h19a, h19b, h19c⟩ := rd_some h19
          have h19d := rd_get (f := PV.str) h19c
          have h19f := rd_more (f := PV.str) h19c
          try simp only [Int.toNat_natCast, Int.reduceToNat] at h19d h19f
          obtain ⟨h20, hh⟩ := chk_some hh
          obtain ⟨h21, hh⟩ := chk_some hh
          obtain ⟨l_18, h22, hh⟩ := bind_ex hh
          obtain ⟨h22a, h22c⟩ := wr_some h22
          have h22d := wr_map (f := PV.str) h22c
          try simp only [Int.toNat_natCast, Int.reduceToNat, List.map_cons, List.map_nil, List.cons_append, List.nil_append, List.singleton_append, lens_Prim.pv_eq, lens_Lens.pv_eq, diptychref13_Prim.pv_eq, diptychref13_Lens.pv_eq, pvL] at h22d
          have h22e := wr_len h22c
          have h19b_h22 := h19b; rw [h22e] at h19b_h22
          have h19f1_h22 := h19f.1; rw [h22e] at h19f1_h22
          have h19a_h22 := h19a; try rw [h22e] at h19a_h22
          have h19d_h22 := h19d; try rw [h22e] at h19d_h22
          try rw [h22e] at h22d
          have h22bw := h22a.2; rw [h22e] at h22bw
          refine awp_region fun K kk hK => ?_
          simp only [go_sem, h19a, h19b, h19d, h19f.1, h19f.2, h20, h21, h19a, h19b, h19d, h19f.1, h19f.2, h22a.1, h22a.2, h22d, h22e, h19b_h22, h19f1_h22, h19a_h22, h19d_h22, h22bw]
          (repeat refine sd ?_)
          try simp only [go_sem, h19a, h19b, h19d, h19f.1, h19f.2, h20, h21, h19a, h19b, h19d, h19f.1, h19f.2, h22a.1, h22a.2, h22d, h22e, h19b_h22, h19f1_h22, h19a_h22, h19d_h22, h22bw]
          refine hK _ _ fun nx => ?_; clear hK K; try clear kk
          refine nmx ?_
          obtain ⟨join_19, h23, hh⟩ := bind_ex hh
          refine awp_first fun K kk hK => ?_
          simp only [go_sem]
          refine step_call2 (strings_Join_ok _ _ _ h23) (by (try simp only [go_sem]) <;> exact wkl) (by rfl) (by rfl) ?_
          simp only [go_sem]
          refine hK _ _ fun nx => ?_; clear hK K; try clear kk
          refine awp_ret ?_; refine nmx ?_
          obtain hR := Option.some.inj hh
          subst hR
          exact ret_p2
      · rw [if_neg h11] at hh
        replace h11 := Bool.eq_false_iff.mpr h11
        refine awp_false (by first | exact congrArg PV.bool h11 | rfl) ?_
        refine awp_first fun K kk hK => ?_
        simp only [go_sem]
        refine hK _ _ fun nx => ?_; clear hK K; try clear kk
        by_cases h24 : (p_1.Op == (116 : Int)) = true
        · rw [if_pos h24] at hh
          refine awp_true (by first | exact congrArg PV.bool h24 | rfl) ?_
          refine awp_first fun K kk hK => ?_
          simp only [go_sem]
          refine hK _ _ fun nx => ?_; clear hK K; try clear kk
          refine awp_seq ?_
          refine awp_first fun K kk hK => ?_
          simp only [go_sem]
          refine hK _ _ fun nx => ?_; clear hK K; try clear kk
          obtain ⟨e2, f2, hh⟩ := bind_ex hh
          obtain ⟨hlen2, f2⟩ := chk_some f2
          refine awp_fragE (CutTo (fun s => ∃ l_33, l_33 = e2 ∧ ∃ (v_31 : Int) (v_32 : Bool) (nx : Nat) (g1 : Nat) (g3 : Nat) (g7 : Nat), s = ⟨[(1, .box 1 g1 0), (3, .row 3 g3 words_11.length), (7, .row 7 g7 l_33.length), (53, .list 1 (p_1.Values.map PV.str)), (54, .int .i64 (p_1.Values.length : Int)), (55, .int .i64 v_31), (56, .bool v_32)], [(1, g1, .var 50 [.int .u8 p_1.Op, .str p_1.Kind, .str p_1.Name, .str p_1.New, .list 1 (p_1.Values.map PV.str), .list 1 (p_1.To.map PV.str)]), (3, g3, .row false 1 (words_11.map PV.str)), (7, g7, .row false 1 (l_33.map PV.str))], nx⟩))
            (fun i s => False)
            (fun s => False) ?_ ?_ ?_ ?_
          · refine awp_block ?_
            refine awp_loopJ fun I hI => ?_
            have key : ∀ (suf pre : List Str) (v_23 : Int) (l_24 : (List Str)), p_1.Values = pre ++ suf → v_23 = (pre.length : Int) → lens_Prim_text_l2 p_1 suf v_23 l_24 = some e2 → ∀ (nx : Nat) (g1 : Nat) (g3 : Nat) (g7 : Nat), I ⟨[(1, .box 1 g1 0), (3, .row 3 g3 words_11.length), (7, .row 7 g7 l_24.length), (53, .list 1 (p_1.Values.map PV.str)), (54, .int .i64 (p_1.Values.length : Int)), (55, .int .i64 v_23)], [(1, g1, .var 50 [.int .u8 p_1.Op, .str p_1.Kind, .str p_1.Name, .str p_1.New, .list 1 (p_1.Values.map PV.str), .list 1 (p_1.To.map PV.str)]), (3, g3, .row false 1 (words_11.map PV.str)), (7, g7, .row false 1 (l_24.map PV.str))], nx⟩ := by
              intro suf
              induction suf with
              | nil =>
                intro pre v_23 l_24 hsplit hidx hh nx g1 g3 g7
                rw [lens_Prim_text_l2] at hh
                refine hI _ ?_
                have h37 := walk_nil hsplit hidx
                refine awp_first fun K kk hK => ?_
                simp only [go_sem]
                refine hK _ _ fun nx => ?_; clear hK K; try clear kk
                refine awp_seq ?_
                refine awp_false (by first | exact congrArg PV.bool h37 | rfl) ?_
                refine awp_exit ?_; refine nmx ?_
                refine fragN ?_
                refine cut_id ?_
                refine ⟨_, (Option.some.inj hh), ?_⟩
                first | exact ⟨_, _, _, _, _, _, rfl⟩ | (simp only [lens_Prim.pv_eq, lens_Lens.pv_eq, diptychref13_Prim.pv_eq, diptychref13_Lens.pv_eq, pvL, List.map_cons, List.map_nil, List.map_append, rune1]; exact ⟨_, _, _, _, _, _, rfl⟩) | (simp only [lens_Prim.pv_eq, lens_Lens.pv_eq, diptychref13_Prim.pv_eq, diptychref13_Lens.pv_eq, pvL, List.map_cons, List.map_nil, List.map_append, rune1, h11, h24, h37]; exact ⟨_, _, _, _, _, _, rfl⟩)
              | cons y_28 suf ih =>
                intro pre v_23 l_24 hsplit hidx hh nx g1 g3 g7
                rw [lens_Prim_text_l2] at hh
                refine hI _ ?_
                obtain ⟨hl2a, hl2b, hl2d, hl2w, h37⟩ := walk_cons (f := PV.str) hsplit hidx hlen2
                refine awp_first fun K kk hK => ?_
                simp only [go_sem]
                refine hK _ _ fun nx => ?_; clear hK K; try clear kk
                refine awp_seq ?_
                refine awp_true (by first | exact congrArg PV.bool h37 | rfl) ?_
                refine awp_skip ?_; refine nmx ?_
                refine awp_seq ?_
                refine awp_block ?_
                refine awp_first fun K kk hK => ?_
                simp only [go_sem, hl2a, hl2b, hl2d, hl2w]
                refine hK _ _ fun nx => ?_; clear hK K; try clear kk
                obtain ⟨h38, hh⟩ := chk_some hh
                obtain ⟨x_29, h39, hh⟩ := bind_ex hh
                obtain ⟨h39a, h39b, h39c⟩ := rd_some h39
                have h39d := rd_get (f := PV.str) h39c
                have h39f := rd_more (f := PV.str) h39c
                try simp only [Int.toNat_natCast, Int.reduceToNat] at h39d h39f
                obtain ⟨h40, hh⟩ := chk_some hh
                obtain ⟨l_30, h41, hh⟩ := bind_ex hh
                obtain ⟨h41a, h41c⟩ := app_some h41
                have h41d := app_map (f := PV.str) h41c
                have h41e := app_len h41c
                try simp only [List.length_cons, List.length_nil, Nat.zero_add, Nat.reduceAdd] at h41a h41e
                try simp only [h41e] at h41a
                try simp only [List.map_cons, List.map_nil, List.nil_append, List.append_nil, List.cons_append, List.singleton_append, rune1, lens_Prim.pv_eq, lens_Lens.pv_eq, diptychref13_Prim.pv_eq, diptychref13_Lens.pv_eq, pvL] at h41d
                refine awp_region fun K kk hK => ?_
                simp only [go_sem, h38, h39a, h39b, h39d, h39f.1, h39f.2, h40, h41a, h41d, h41e, hl2a, hl2b, hl2d, hl2w]
                (repeat refine sd ?_)
                refine hK _ _ fun nx => ?_; clear hK K; try clear kk
                refine nmx ?_
                refine awp_region fun K kk hK => ?_
                simp only [go_sem, hl2a, hl2b, hl2d, hl2w]
                refine hK _ _ fun nx => ?_; clear hK K; try clear kk
                refine nmx ?_
                have ih' := ih (pre ++ [y_28]) (v_23 + 1) _ (by rw [hsplit]; simp) (by simp [hidx]) hh nx
                refine cut_id ?_
                first | exact ih' _ _ _ | (simp only [lens_Prim.pv_eq, lens_Lens.pv_eq, diptychref13_Prim.pv_eq, diptychref13_Lens.pv_eq, pvL, List.map_cons, List.map_nil, List.map_append, rune1, h41e] at ih' ⊢; exact ih' _ _ _) | (simp only [lens_Prim.pv_eq, lens_Lens.pv_eq, diptychref13_Prim.pv_eq, diptychref13_Lens.pv_eq, pvL, List.map_cons, List.map_nil, List.map_append, rune1, h41e, h11, h24, h37] at ih' ⊢; exact ih' _ _ _)
            exact key p_1.Values [] _ _ rfl rfl f2 _ _ _ _
          · rintro s ⟨t, hless, l_33, rfl, v_31, v_32, nx, g1, g3, g7, rfl⟩
            try dsimp only at hh
            refine nmy ?_
            first | (refine cut_less hless ?_; try refine cut_awp ?_) | refine frag_less hless ?_ | refine body_less hless ?_
            obtain ⟨join_34, h42, hh⟩ := bind_ex hh
            obtain ⟨l_35, h43, hh⟩ := bind_ex hh
            obtain ⟨h43a, h43c⟩ := app_some h43
            have h43d := app_map (f := PV.str) h43c
            have h43e := app_len h43c
            try simp only [List.length_cons, List.length_nil, Nat.zero_add, Nat.reduceAdd] at h43a h43e
            try simp only [h43e] at h43a
            try simp only [List.map_cons, List.map_nil, List.nil_append, List.append_nil, List.cons_append, List.singleton_append, rune1, lens_Prim.pv_eq, lens_Lens.pv_eq, diptychref13_Prim.pv_eq, diptychref13_Lens.pv_eq, pvL] at h43d
            refine awp_region fun K kk hK => ?_
            simp only [go_sem, h43a, h43d, h43e]
            (repeat refine sd ?_)
            refine step_call2 (strings_Join_ok _ _ _ h42) (by (try simp only [go_sem, h43a, h43d, h43e]) <;> exact wkl) (by rfl) (by rfl) ?_
            simp only [go_sem, h43a, h43d, h43e]
            (repeat refine sd ?_)
            refine hK _ _ fun nx => ?_; clear hK K; try clear kk
            refine nmx ?_
            obtain ⟨join_36, h44, hh⟩ := bind_ex hh
            refine awp_first fun K kk hK => ?_
            simp only [go_sem]
            refine step_call2 (strings_Join_ok _ _ _ h44) (by (try simp only [go_sem]) <;> exact wkl) (by rfl) (by rfl) ?_
            simp only [go_sem]
            refine hK _ _ fun nx => ?_; clear hK K; try clear kk
            refine awp_ret ?_; refine nmx ?_
            obtain hR := Option.some.inj hh
            subst hR
            exact ret_p2
          · intro i s h; exact h.elim
          · intro s h; exact h.elim
        · rw [if_neg h24] at hh
          replace h24 := Bool.eq_false_iff.mpr h24
          refine awp_false (by first | exact congrArg PV.bool h24 | rfl) ?_
          refine awp_skip ?_; refine nmx ?_
          obtain ⟨join_37, h45, hh⟩ := bind_ex hh
          refine awp_first fun K kk hK => ?_
          simp only [go_sem]
          refine step_call2 (strings_Join_ok _ _ _ h45) (by (try simp only [go_sem]) <;> exact wkl) (by rfl) (by rfl) ?_
          simp only [go_sem]
          refine hK _ _ fun nx => ?_; clear hK K; try clear kk
          refine awp_ret ?_; refine nmx ?_
          obtain hR := Option.some.inj hh
          subst hR
          exact ret_p2
    · intro i s h; exact h.elim
    · intro s h; exact h.elim
  · intro i s h; exact h.elim
  · intro s h; exact h.elim
theorem lens_Lens_text_grp : ∀ kr : Nat, (∀ (l_1 : lens_Lens) (R : Str), lens_Lens_text_k kr l_1 = some R → PC Tryd.prog 70 [.agg [.int .u8 l_1.Prim.Op, .str l_1.Prim.Kind, .str l_1.Prim.Name, .str l_1.Prim.New, .list 1 (l_1.Prim.Values.map PV.str), .list 1 (l_1.Prim.To.map PV.str), .bool l_1.Turned, .list 8 (l_1.Kids.map lens_Lens.pv)]] (.str R)) := by
  intro kr
  induction kr with
  | zero => exact (by intro l_1 R hh; rw [lens_Lens_text_k] at hh; cases hh)
  | succ kr ih =>
    have ih_lens_Lens_text := ih
    clear ih
    intro l_1 R hh
    rw [lens_Lens_text_k] at hh
    refine start_lens_Lens_text rfl ?_
    refine awp_first fun K kk hK => ?_
    simp only [go_sem]
    refine hK _ _ fun nx => ?_; clear hK K; try clear kk
    refine awp_seq ?_
    refine awp_first fun K kk hK => ?_
    simp only [go_sem]
    refine hK _ _ fun nx => ?_; clear hK K; try clear kk
    by_cases h1 : (l_1.Prim.Op != (0 : Int)) = true
    · rw [if_pos h1] at hh
      refine awp_true (by first | exact congrArg PV.bool h1 | rfl) ?_
      obtain ⟨text_2, h2, hh⟩ := bind_ex hh
      refine awp_first fun K kk hK => ?_
      simp only [go_sem]
      refine step_call2 (lens_Prim_text_ok _ _ h2) (by (try simp only [go_sem]) <;> exact wkl) (by rfl) (by rfl) ?_
      simp only [go_sem]
      refine hK _ _ fun nx => ?_; clear hK K; try clear kk
      refine awp_ret ?_; refine nmx ?_
      obtain hR := Option.some.inj hh
      subst hR
      exact ret_p2
    · rw [if_neg h1] at hh
      replace h1 := Bool.eq_false_iff.mpr h1
      refine awp_false (by first | exact congrArg PV.bool h1 | rfl) ?_
      refine awp_skip ?_; refine nmx ?_
      refine awp_first fun K kk hK => ?_
      simp only [go_sem]
      refine hK _ _ fun nx => ?_; clear hK K; try clear kk
      refine awp_seq ?_
      refine awp_first fun K kk hK => ?_
      simp only [go_sem]
      refine hK _ _ fun nx => ?_; clear hK K; try clear kk
      obtain ⟨e0, f0, hh⟩ := bind_ex hh
      obtain ⟨hlen0, f0⟩ := chk_some f0
      refine awp_fragE (CutTo (fun s => ∃ words_16, words_16 = e0 ∧ ∃ (v_14 : Int) (v_15 : Bool) (nx : Nat) (g1 : Nat) (g3 : Nat), s = ⟨[(1, .box 1 g1 0), (3, .row 3 g3 words_16.length), (15, .list 8 (l_1.Kids.map lens_Lens.pv)), (16, .int .i64 (l_1.Kids.length : Int)), (17, .int .i64 v_14), (18, .bool v_15)], [(1, g1, .var 53 [.int .u8 l_1.Prim.Op, .str l_1.Prim.Kind, .str l_1.Prim.Name, .str l_1.Prim.New, .list 1 (l_1.Prim.Values.map PV.str), .list 1 (l_1.Prim.To.map PV.str), .bool l_1.Turned, .list 8 (l_1.Kids.map lens_Lens.pv)]), (3, g3, .row false 1 (words_16.map PV.str))], nx⟩))
        (fun i s => False)
        (fun s => False) ?_ ?_ ?_ ?_
      · refine awp_block ?_
        refine awp_loopJ fun I hI => ?_
        have key : ∀ (suf pre : List lens_Lens) (v_6 : Int) (words_7 : (List Str)), l_1.Kids = pre ++ suf → v_6 = (pre.length : Int) → lens_Lens_text_l0 (lens_Lens_text_k kr) suf v_6 words_7 = some e0 → ∀ (nx : Nat) (g1 : Nat) (g3 : Nat), I ⟨[(1, .box 1 g1 0), (3, .row 3 g3 words_7.length), (15, .list 8 (l_1.Kids.map lens_Lens.pv)), (16, .int .i64 (l_1.Kids.length : Int)), (17, .int .i64 v_6)], [(1, g1, .var 53 [.int .u8 l_1.Prim.Op, .str l_1.Prim.Kind, .str l_1.Prim.Name, .str l_1.Prim.New, .list 1 (l_1.Prim.Values.map PV.str), .list 1 (l_1.Prim.To.map PV.str), .bool l_1.Turned, .list 8 (l_1.Kids.map lens_Lens.pv)]), (3, g3, .row false 1 (words_7.map PV.str))], nx⟩ := by
          intro suf
          induction suf with
          | nil =>
            intro pre v_6 words_7 hsplit hidx hh nx g1 g3
            rw [lens_Lens_text_l0] at hh
            refine hI _ ?_
            have h11 := walk_nil hsplit hidx
            refine awp_first fun K kk hK => ?_
            simp only [go_sem]
            refine hK _ _ fun nx => ?_; clear hK K; try clear kk
            refine awp_seq ?_
            refine awp_false (by first | exact congrArg PV.bool h11 | rfl) ?_
            refine awp_exit ?_; refine nmx ?_
            refine fragN ?_
            refine cut_id ?_
            refine ⟨_, (Option.some.inj hh), ?_⟩
            first | exact ⟨_, _, _, _, _, rfl⟩ | (simp only [lens_Prim.pv_eq, lens_Lens.pv_eq, diptychref13_Prim.pv_eq, diptychref13_Lens.pv_eq, pvL, List.map_cons, List.map_nil, List.map_append, rune1]; exact ⟨_, _, _, _, _, rfl⟩) | (simp only [lens_Prim.pv_eq, lens_Lens.pv_eq, diptychref13_Prim.pv_eq, diptychref13_Lens.pv_eq, pvL, List.map_cons, List.map_nil, List.map_append, rune1, h1, h11]; exact ⟨_, _, _, _, _, rfl⟩)
          | cons y_11 suf ih =>
            intro pre v_6 words_7 hsplit hidx hh nx g1 g3
            rw [lens_Lens_text_l0] at hh
            refine hI _ ?_
            obtain ⟨hl0a, hl0b, hl0d, hl0w, h11⟩ := walk_cons (f := lens_Lens.pv) hsplit hidx hlen0
            refine awp_first fun K kk hK => ?_
            simp only [go_sem]
            refine hK _ _ fun nx => ?_; clear hK K; try clear kk
            refine awp_seq ?_
            refine awp_true (by first | exact congrArg PV.bool h11 | rfl) ?_
            refine awp_skip ?_; refine nmx ?_
            refine awp_seq ?_
            refine awp_block ?_
            refine awp_first fun K kk hK => ?_
            simp only [go_sem, hl0a, hl0b, hl0d, hl0w]
            refine hK _ _ fun nx => ?_; clear hK K; try clear kk
            obtain ⟨text_12, h12, hh⟩ := bind_ex hh
            obtain ⟨l_13, h13, hh⟩ := bind_ex hh
            obtain ⟨h13a, h13c⟩ := app_some h13
            have h13d := app_map (f := PV.str) h13c
            have h13e := app_len h13c
            try simp only [List.length_cons, List.length_nil, Nat.zero_add, Nat.reduceAdd] at h13a h13e
            try simp only [h13e] at h13a
            try simp only [List.map_cons, List.map_nil, List.nil_append, List.append_nil, List.cons_append, List.singleton_append, rune1, lens_Prim.pv_eq, lens_Lens.pv_eq, diptychref13_Prim.pv_eq, diptychref13_Lens.pv_eq, pvL] at h13d
            refine awp_region fun K kk hK => ?_
            simp only [go_sem, h13a, h13d, h13e, hl0a, hl0b, hl0d, hl0w]
            (repeat refine sd ?_)
            refine step_call2 (ih_lens_Lens_text _ _ h12) (by (try simp only [go_sem, h13a, h13d, h13e, hl0a, hl0b, hl0d, hl0w]) <;> exact wkl) (by rfl) (by rfl) ?_
            simp only [go_sem, h13a, h13d, h13e, hl0a, hl0b, hl0d, hl0w]
            (repeat refine sd ?_)
            refine hK _ _ fun nx => ?_; clear hK K; try clear kk
            refine nmx ?_
            refine awp_region fun K kk hK => ?_
            simp only [go_sem, hl0a, hl0b, hl0d, hl0w]
            refine hK _ _ fun nx => ?_; clear hK K; try clear kk
            refine nmx ?_
            have ih' := ih (pre ++ [y_11]) (v_6 + 1) _ (by rw [hsplit]; simp) (by simp [hidx]) hh nx
            refine cut_id ?_
            first | exact ih' _ _ | (simp only [lens_Prim.pv_eq, lens_Lens.pv_eq, diptychref13_Prim.pv_eq, diptychref13_Lens.pv_eq, pvL, List.map_cons, List.map_nil, List.map_append, rune1, h13e] at ih' ⊢; exact ih' _ _) | (simp only [lens_Prim.pv_eq, lens_Lens.pv_eq, diptychref13_Prim.pv_eq, diptychref13_Lens.pv_eq, pvL, List.map_cons, List.map_nil, List.map_append, rune1, h13e, h1, h11] at ih' ⊢; exact ih' _ _)
        exact key l_1.Kids [] _ _ rfl rfl f0 _ _ _
      · rintro s ⟨t, hless, words_16, rfl, v_14, v_15, nx, g1, g3, rfl⟩
        try dsimp only at hh
        refine nmy ?_
        first | (refine cut_less hless ?_; try refine cut_awp ?_) | refine frag_less hless ?_ | refine body_less hless ?_
        obtain ⟨join_17, h14, hh⟩ := bind_ex hh
        refine awp_first fun K kk hK => ?_
        simp only [go_sem]
        refine step_call2 (strings_Join_ok _ _ _ h14) (by (try simp only [go_sem]) <;> exact wkl) (by rfl) (by rfl) ?_
        simp only [go_sem]
        refine hK _ _ fun nx => ?_; clear hK K; try clear kk
        refine awp_seq ?_
        refine awp_first fun K kk hK => ?_
        simp only [go_sem]
        refine hK _ _ fun nx => ?_; clear hK K; try clear kk
        by_cases h15 : (l_1.Turned) = true
        · rw [if_pos h15] at hh
          refine awp_true (by first | exact congrArg PV.bool h15 | rfl) ?_
          obtain ⟨h16, hh⟩ := chk_some hh
          obtain ⟨h17, hh⟩ := chk_some hh
          refine awp_first fun K kk hK => ?_
          simp only [go_sem, h16, h17]
          (repeat refine sd ?_)
          refine hK _ _ fun nx => ?_; clear hK K; try clear kk
          refine awp_ret ?_; refine nmx ?_
          obtain hR := Option.some.inj hh
          subst hR
          exact ret_p2
        · rw [if_neg h15] at hh
          replace h15 := Bool.eq_false_iff.mpr h15
          refine awp_false (by first | exact congrArg PV.bool h15 | rfl) ?_
          refine awp_skip ?_; refine nmx ?_
          refine awp_first fun K kk hK => ?_
          simp only [go_sem]
          refine hK _ _ fun nx => ?_; clear hK K; try clear kk
          refine awp_ret ?_; refine nmx ?_
          obtain hR := Option.some.inj hh
          subst hR
          exact ret_p2
      · intro i s h; exact h.elim
      · intro s h; exact h.elim
theorem lens_Lens_text_ok (l_1 : lens_Lens) (R : Str) (hh : lens_Lens_text l_1 = some R) : PC Tryd.prog 70 [.agg [.int .u8 l_1.Prim.Op, .str l_1.Prim.Kind, .str l_1.Prim.Name, .str l_1.Prim.New, .list 1 (l_1.Prim.Values.map PV.str), .list 1 (l_1.Prim.To.map PV.str), .bool l_1.Turned, .list 8 (l_1.Kids.map lens_Lens.pv)]] (.str R) := by
  rw [lens_Lens_text] at hh
  obtain ⟨kr, hh⟩ := lim_some hh
  exact (lens_Lens_text_grp kr) _ _ hh
theorem lens_Print_ok (l_1 : lens_Lens) (R : (Str × Int)) (hh : lens_Print l_1 = some R) : PC Tryd.prog 27 [.agg [.int .u8 l_1.Prim.Op, .str l_1.Prim.Kind, .str l_1.Prim.Name, .str l_1.Prim.New, .list 1 (l_1.Prim.Values.map PV.str), .list 1 (l_1.Prim.To.map PV.str), .bool l_1.Turned, .list 8 (l_1.Kids.map lens_Lens.pv)]] (.tup [.str R.1, .int .i64 R.2]) := by
  rw [lens_Print] at hh
  refine start_lens_Print rfl ?_
  refine awp_first fun K kk hK => ?_
  simp only [go_sem]
  refine hK _ _ fun nx => ?_; clear hK K; try clear kk
  refine awp_seq ?_
  obtain ⟨right_2, h1, hh⟩ := bind_ex hh
  refine awp_first fun K kk hK => ?_
  simp only [go_sem]
  refine step_call2 (lens_Right_ok _ _ h1) (by (try simp only [go_sem]) <;> exact wkl) (by rfl) (by rfl) ?_
  simp only [go_sem]
  refine hK _ _ fun nx => ?_; clear hK K; try clear kk
  by_cases h2 : (!right_2) = true
  · rw [if_pos h2] at hh
    refine awp_true (by first | exact congrArg PV.bool h2 | rfl) ?_
    refine awp_first fun K kk hK => ?_
    simp only [go_sem]
    refine hK _ _ fun nx => ?_; clear hK K; try clear kk
    refine awp_ret ?_; refine nmx ?_
    obtain hR := Option.some.inj hh
    subst hR
    exact ret_p2
  · rw [if_neg h2] at hh
    replace h2 := Bool.eq_false_iff.mpr h2
    refine awp_false (by first | exact congrArg PV.bool h2 | rfl) ?_
    refine awp_skip ?_; refine nmx ?_
    obtain ⟨text_3, h3, hh⟩ := bind_ex hh
    refine awp_first fun K kk hK => ?_
    simp only [go_sem]
    refine step_call2 (lens_Lens_text_ok _ _ h3) (by (try simp only [go_sem]) <;> exact wkl) (by rfl) (by rfl) ?_
    simp only [go_sem]
    refine hK _ _ fun nx => ?_; clear hK K; try clear kk
    refine awp_ret ?_; refine nmx ?_
    obtain hR := Option.some.inj hh
    subst hR
    exact ret_p2
theorem internal_stringslite_HasPrefix_ok (s_1 : Str) (prefix_2 : Str) (R : Bool) (hh : internal_stringslite_HasPrefix s_1 prefix_2 = some R) : PC Tryd.prog 126 [.str s_1, .str prefix_2] (.bool R) := by
  rw [internal_stringslite_HasPrefix] at hh
  refine start_internal_stringslite_HasPrefix rfl ?_
  refine awp_first fun K kk hK => ?_
  simp only [go_sem]
  refine hK _ _ fun nx => ?_; clear hK K; try clear kk
  by_cases h1 : (decide ((s_1.length : Int) ≥ (prefix_2.length : Int))) = true
  · rw [if_pos h1] at hh
    obtain ⟨s_3, h2, hh⟩ := bind_ex hh
    obtain ⟨h2a, h2c⟩ := sl_some h2
    have h2g := sl_le h2a
    have h2d := sl_str0 h2c
    try simp only [Int.toNat_natCast, Int.reduceToNat] at h2d
    refine awp_first fun K kk hK => ?_
    simp only [go_sem, h1, of_decide_eq_true h1, h2a.1, h2a.2.1, h2a.2.2, h2d, h2g, h1, of_decide_eq_true h1]
    (repeat refine sd ?_)
    refine hK _ _ fun nx => ?_; clear hK K; try clear kk
    refine awp_ret ?_; refine nmx ?_
    obtain hR := Option.some.inj hh
    subst hR
    exact ret_p2
  · rw [if_neg h1] at hh
    replace h1 := Bool.eq_false_iff.mpr h1
    refine awp_first fun K kk hK => ?_
    simp only [go_sem, h1, of_decide_eq_false h1, h1, of_decide_eq_false h1]
    (repeat refine sd ?_)
    refine hK _ _ fun nx => ?_; clear hK K; try clear kk
    refine awp_ret ?_; refine nmx ?_
    obtain hR := Option.some.inj hh
    subst hR
    exact ret_p2
theorem internal_stringslite_CutPrefix_ok (s_1 : Str) (prefix_2 : Str) (R : (Str × Bool)) (hh : internal_stringslite_CutPrefix s_1 prefix_2 = some R) : PC Tryd.prog 125 [.str s_1, .str prefix_2] (.tup [.str R.1, .bool R.2]) := by
  rw [internal_stringslite_CutPrefix] at hh
  refine start_internal_stringslite_CutPrefix rfl ?_
  refine awp_first fun K kk hK => ?_
  simp only [go_sem]
  refine hK _ _ fun nx => ?_; clear hK K; try clear kk
  refine awp_seq ?_
  obtain ⟨haspre_3, h1, hh⟩ := bind_ex hh
  refine awp_first fun K kk hK => ?_
  simp only [go_sem]
  refine step_call2 (internal_stringslite_HasPrefix_ok _ _ _ h1) (by (try simp only [go_sem]) <;> exact wkl) (by rfl) (by rfl) ?_
  simp only [go_sem]
  refine hK _ _ fun nx => ?_; clear hK K; try clear kk
  by_cases h2 : (!haspre_3) = true
  · rw [if_pos h2] at hh
    refine awp_true (by first | exact congrArg PV.bool h2 | rfl) ?_
    refine awp_first fun K kk hK => ?_
    simp only [go_sem]
    refine hK _ _ fun nx => ?_; clear hK K; try clear kk
    refine awp_ret ?_; refine nmx ?_
    obtain hR := Option.some.inj hh
    subst hR
    exact ret_p2
  · rw [if_neg h2] at hh
    replace h2 := Bool.eq_false_iff.mpr h2
    refine awp_false (by first | exact congrArg PV.bool h2 | rfl) ?_
    refine awp_skip ?_; refine nmx ?_
    obtain ⟨s_4, h3, hh⟩ := bind_ex hh
    obtain ⟨h3a, h3c⟩ := sl_some h3
    have h3g := sl_le h3a
    have h3d := sl_str1 h3c
    try simp only [Int.toNat_natCast, Int.reduceToNat] at h3d
    refine awp_first fun K kk hK => ?_
    simp only [go_sem, h3a.1, h3a.2.1, h3a.2.2, h3d, h3g]
    (repeat refine sd ?_)
    refine hK _ _ fun nx => ?_; clear hK K; try clear kk
    refine awp_ret ?_; refine nmx ?_
    obtain hR := Option.some.inj hh
    subst hR
    exact ret_p2
theorem strings_CutPrefix_ok (s_1 : Str) (prefix_2 : Str) (R : (Str × Bool)) (hh : strings_CutPrefix s_1 prefix_2 = some R) : PC Tryd.prog 105 [.str s_1, .str prefix_2] (.tup [.str R.1, .bool R.2]) := by
  rw [strings_CutPrefix] at hh
  refine start_strings_CutPrefix rfl ?_
  refine awp_first fun K kk hK => ?_
  simp only [go_sem]
  refine hK _ _ fun nx => ?_; clear hK K; try clear kk
  obtain ⟨⟨r_3, r_4⟩, h1, hh⟩ := bind_ex hh
  dsimp only at hh
  refine awp_first fun K kk hK => ?_
  simp only [go_sem]
  refine step_call2 (internal_stringslite_CutPrefix_ok _ _ _ h1) (by (try simp only [go_sem]) <;> exact wkl) (by rfl) (by rfl) ?_
  simp only [go_sem]
  refine hK _ _ fun nx => ?_; clear hK K; try clear kk
  refine awp_ret ?_; refine nmx ?_
  obtain hR := Option.some.inj hh
  subst hR
  exact ret_p2
theorem strings_HasPrefix_ok (s_1 : Str) (prefix_2 : Str) (R : Bool) (hh : strings_HasPrefix s_1 prefix_2 = some R) : PC Tryd.prog 106 [.str s_1, .str prefix_2] (.bool R) := by
  rw [strings_HasPrefix] at hh
  refine start_strings_HasPrefix rfl ?_
  refine awp_first fun K kk hK => ?_
  simp only [go_sem]
  refine hK _ _ fun nx => ?_; clear hK K; try clear kk
  obtain ⟨haspre_3, h1, hh⟩ := bind_ex hh
  refine awp_first fun K kk hK => ?_
  simp only [go_sem]
  refine step_call2 (internal_stringslite_HasPrefix_ok _ _ _ h1) (by (try simp only [go_sem]) <;> exact wkl) (by rfl) (by rfl) ?_
  simp only [go_sem]
  refine hK _ _ fun nx => ?_; clear hK K; try clear kk
  refine awp_ret ?_; refine nmx ?_
  obtain hR := Option.some.inj hh
  subst hR
  exact ret_p2
theorem strings_IndexAny_ok (s : Str) (cutset : Str) (R : Int) (hh : strings_IndexAny s cutset = some R) : PC Tryd.prog 107 [.str s, .str cutset] (.int .i64 R) := by
  rw [strings_IndexAny] at hh
  exact lib_indexAny ⟨_, Tryd.func107, by kernel_rfl, by kernel_rfl⟩ Tryd.strings_IndexAny_laid s cutset R hh
theorem strings_Split_ok (s : Str) (sep : Str) (R : (List Str)) (hh : strings_Split s sep = some R) : PC Tryd.prog 131 [.str s, .str sep] (.own 1 (R.map PV.str)) := by
  rw [strings_Split] at hh
  exact lib_split ⟨_, Tryd.func131, by kernel_rfl, by kernel_rfl⟩ (fun _ h => h.2) Tryd.strings_Split s sep R hh
theorem strings_Cut_ok (s : Str) (sep : Str) (R : (Str × Str × Bool)) (hh : strings_Cut s sep = some R) : PC Tryd.prog 133 [.str s, .str sep] (.tup [.str R.1, .str R.2.1, .bool R.2.2]) := by
  rw [strings_Cut] at hh
  exact lib_cut ⟨_, Tryd.func133, by kernel_rfl, by kernel_rfl⟩ (fun _ h => h.2) Tryd.strings_Cut s sep R hh

end Go.Proofs.YtpjdafhmneiohaaDoor
