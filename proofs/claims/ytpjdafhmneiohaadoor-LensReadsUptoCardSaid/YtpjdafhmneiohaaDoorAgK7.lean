/- What the functions answer, the program answers (7). -/
import Derived.Test.YtpjdafhmneiohaaDoorAgC
import Derived.Test.YtpjdafhmneiohaaDoorAgF
import Derived.Test.YtpjdafhmneiohaaDoorAgK0
import Derived.Test.YtpjdafhmneiohaaDoorAgK1
import Derived.Test.YtpjdafhmneiohaaDoorAgK2
import Derived.Test.YtpjdafhmneiohaaDoorAgK3
import Derived.Test.YtpjdafhmneiohaaDoorAgK4
import Derived.Test.YtpjdafhmneiohaaDoorAgK5
import Derived.Test.YtpjdafhmneiohaaDoorAgK6
namespace Go.Proofs.YtpjdafhmneiohaaDoor
set_option linter.unusedSimpArgs false
set_option linter.unusedVariables false
open Go
set_option maxRecDepth 100000

theorem diptychlaw13_samePrims_ok (a_1 : (List lens_Prim)) (b_2 : (List diptychref13_Prim)) (R : Bool) (hh : diptychlaw13_samePrims a_1 b_2 = some R) : PC Tryd.prog 34 [.list 6 (a_1.map lens_Prim.pv), .list 6 (b_2.map diptychref13_Prim.pv)] (.bool R) := by
  rw [diptychlaw13_samePrims] at hh
  refine start_diptychlaw13_samePrims rfl ?_
  refine awp_first fun K kk hK => ?_
  simp only [go_sem]
  refine hK _ _ fun nx => ?_; clear hK K; try clear kk
  refine awp_seq ?_
  refine awp_first fun K kk hK => ?_
  simp only [go_sem]
  refine hK _ _ fun nx => ?_; clear hK K; try clear kk
  by_cases h1 : ((a_1.length : Int) != (b_2.length : Int)) = true
  · rw [if_pos h1] at hh
    refine awp_true (by first | exact congrArg PV.bool h1 | rfl) ?_
    refine awp_first fun K kk hK => ?_
    simp only [go_sem]
    refine hK _ _ fun nx => ?_; clear hK K; try clear kk
    refine awp_ret ?_; refine nmx ?_
    obtain hR := Option.some.inj hh
    subst hR
    exact ret_p2
  · rw [if_neg h1] at hh
    replace h1 := Bool.eq_false_iff.mpr h1
    refine awp_false (by first | exact congrArg PV.bool h1 | rfl) ?_
    refine awp_skip ?_; refine nmx ?_
    refine awp_seq ?_
    refine awp_first fun K kk hK => ?_
    simp only [go_sem]
    refine hK _ _ fun nx => ?_; clear hK K; try clear kk
    obtain ⟨e0, f0, hh⟩ := bind_ex hh
    obtain ⟨hlen0, f0⟩ := chk_some f0
    refine awp_fragE (CutTo (fun s => .inr () = e0 ∧ ∃ (i_14 : Int) (v_15 : Bool) (nx : Nat), s = ⟨[(0, .list 6 (a_1.map lens_Prim.pv)), (1, .list 6 (b_2.map diptychref13_Prim.pv)), (5, .int .i64 i_14), (14, .bool v_15)], [], nx⟩))
      (fun i s => False)
      (fun s => ∃ res_13, .inl res_13 = e0 ∧ bodyR Tryd.prog [.tmp 4] (.bool res_13) [] .ret s) ?_ ?_ ?_ ?_
    · refine awp_block ?_
      refine awp_loopJ fun I hI => ?_
      have key : ∀ (suf pre : List lens_Prim) (i_6 : Int), a_1 = pre ++ suf → i_6 = (pre.length : Int) → diptychlaw13_samePrims_l0 b_2 suf i_6 = some e0 → ∀ (nx : Nat), I ⟨[(0, .list 6 (a_1.map lens_Prim.pv)), (1, .list 6 (b_2.map diptychref13_Prim.pv)), (5, .int .i64 i_6)], [], nx⟩ := by
        intro suf
        induction suf with
        | nil =>
          intro pre i_6 hsplit hidx hh nx
          rw [diptychlaw13_samePrims_l0] at hh
          refine hI _ ?_
          have h12 := walk_nil hsplit hidx
          refine awp_seq ?_
          refine awp_first fun K kk hK => ?_
          simp only [go_sem]
          refine hK _ _ fun nx => ?_; clear hK K; try clear kk
          refine awp_false (by first | exact congrArg PV.bool h12 | rfl) ?_
          refine awp_exit ?_; refine nmx ?_
          refine fragN ?_
          refine cut_id ?_
          refine ⟨(Option.some.inj hh), ?_⟩
          first | exact ⟨_, _, _, rfl⟩ | (simp only [lens_Prim.pv_eq, lens_Lens.pv_eq, diptychref13_Prim.pv_eq, diptychref13_Lens.pv_eq, pvL, List.map_cons, List.map_nil, List.map_append, rune1]; exact ⟨_, _, _, rfl⟩) | (simp only [lens_Prim.pv_eq, lens_Lens.pv_eq, diptychref13_Prim.pv_eq, diptychref13_Lens.pv_eq, pvL, List.map_cons, List.map_nil, List.map_append, rune1, h1, h12]; exact ⟨_, _, _, rfl⟩)
        | cons y_10 suf ih =>
          intro pre i_6 hsplit hidx hh nx
          rw [diptychlaw13_samePrims_l0] at hh
          refine hI _ ?_
          obtain ⟨hl0a, hl0b, hl0d, hl0w, h12⟩ := walk_cons (f := lens_Prim.pv) hsplit hidx hlen0
          refine awp_seq ?_
          refine awp_first fun K kk hK => ?_
          simp only [go_sem]
          refine hK _ _ fun nx => ?_; clear hK K; try clear kk
          refine awp_true (by first | exact congrArg PV.bool h12 | rfl) ?_
          refine awp_skip ?_; refine nmx ?_
          refine awp_seq ?_
          refine awp_block ?_
          obtain ⟨x_11, h13, hh⟩ := bind_ex hh
          obtain ⟨h13a, h13b, h13c⟩ := rd_some h13
          have h13d := rd_get (f := diptychref13_Prim.pv) h13c
          have h13f := rd_more (f := diptychref13_Prim.pv) h13c
          try simp only [Int.toNat_natCast, Int.reduceToNat] at h13d h13f
          obtain ⟨samepr_12, h14, hh⟩ := bind_ex hh
          refine awp_first fun K kk hK => ?_
          simp only [go_sem, h13a, h13b, h13d, h13f.1, h13f.2, hl0a, hl0b, hl0d, hl0w]
          (repeat refine sd ?_)
          refine step_call2 (diptychlaw13_samePrim_ok _ _ _ h14) (by (try simp only [go_sem, h13a, h13b, h13d, h13f.1, h13f.2, hl0a, hl0b, hl0d, hl0w]) <;> exact wkl) (by rfl) (by rfl) ?_
          simp only [go_sem, h13a, h13b, h13d, h13f.1, h13f.2, hl0a, hl0b, hl0d, hl0w]
          (repeat refine sd ?_)
          refine hK _ _ fun nx => ?_; clear hK K; try clear kk
          by_cases h15 : (!samepr_12) = true
          · rw [if_pos h15] at hh
            refine awp_true (by first | exact congrArg PV.bool h15 | rfl) ?_
            refine awp_first fun K kk hK => ?_
            simp only [go_sem, hl0a, hl0b, hl0d, hl0w]
            refine hK _ _ fun nx => ?_; clear hK K; try clear kk
            refine awp_ret ?_; refine nmx ?_
            refine fragR ⟨_, (Option.some.inj hh), ?_⟩
            exact ret_p2
          · rw [if_neg h15] at hh
            replace h15 := Bool.eq_false_iff.mpr h15
            refine awp_false (by first | exact congrArg PV.bool h15 | rfl) ?_
            refine awp_skip ?_; refine nmx ?_
            refine awp_region fun K kk hK => ?_
            simp only [go_sem, hl0a, hl0b, hl0d, hl0w]
            refine hK _ _ fun nx => ?_; clear hK K; try clear kk
            refine nmx ?_
            have ih' := ih (pre ++ [y_10]) (i_6 + 1) (by rw [hsplit]; simp) (by simp [hidx]) hh nx
            refine cut_id ?_
            first | exact ih' | (simp only [lens_Prim.pv_eq, lens_Lens.pv_eq, diptychref13_Prim.pv_eq, diptychref13_Lens.pv_eq, pvL, List.map_cons, List.map_nil, List.map_append, rune1] at ih' ⊢; exact ih') | (simp only [lens_Prim.pv_eq, lens_Lens.pv_eq, diptychref13_Prim.pv_eq, diptychref13_Lens.pv_eq, pvL, List.map_cons, List.map_nil, List.map_append, rune1, h1, h12, h15] at ih' ⊢; exact ih')
      exact key a_1 [] _ rfl rfl f0 _
    · rintro s ⟨t, hless, rfl, i_14, v_15, nx, rfl⟩
      try dsimp only at hh
      refine nmy ?_
      first | (refine cut_less hless ?_; try refine cut_awp ?_) | refine frag_less hless ?_ | refine body_less hless ?_
      refine awp_first fun K kk hK => ?_
      simp only [go_sem]
      refine hK _ _ fun nx => ?_; clear hK K; try clear kk
      refine awp_ret ?_; refine nmx ?_
      obtain hR := Option.some.inj hh
      subst hR
      exact ret_p2
    · intro i s h; exact h.elim
    · rintro s ⟨res_13, rfl, hb⟩
      try dsimp only at hh
      obtain hR := Option.some.inj hh
      subst hR
      refine nmx ?_
      exact hb
theorem diptychref13_Flat_grp : ∀ kr : Nat, (∀ (l_1 : diptychref13_Lens) (R : (List diptychref13_Prim)), diptychref13_Flat_k kr l_1 = some R → PC Tryd.prog 36 [.agg [.int .u8 l_1.Prim.Op, .str l_1.Prim.Kind, .str l_1.Prim.Name, .str l_1.Prim.New, .list 1 (l_1.Prim.Values.map PV.str), .list 1 (l_1.Prim.To.map PV.str), .bool l_1.Turned, .list 8 (l_1.Kids.map diptychref13_Lens.pv)]] (.own 6 (R.map diptychref13_Prim.pv))) := by
  intro kr
  induction kr with
  | zero => exact (by intro l_1 R hh; rw [diptychref13_Flat_k] at hh; cases hh)
  | succ kr ih =>
    have ih_diptychref13_Flat := ih
    clear ih
    intro l_1 R hh
    rw [diptychref13_Flat_k] at hh
    refine start_diptychref13_Flat rfl ?_
    refine awp_first fun K kk hK => ?_
    simp only [go_sem]
    refine hK _ _ fun nx => ?_; clear hK K; try clear kk
    refine awp_seq ?_
    refine awp_first fun K kk hK => ?_
    simp only [go_sem]
    refine hK _ _ fun nx => ?_; clear hK K; try clear kk
    by_cases h1 : (l_1.Prim.Op != (0 : Int)) = true
    · rw [if_pos h1] at hh
      refine awp_true (by first | exact congrArg PV.bool h1 | rfl) ?_
      refine awp_first fun K kk hK => ?_
      simp only [go_sem]
      refine hK _ _ fun nx => ?_; clear hK K; try clear kk
      refine awp_ret ?_; refine nmx ?_
      obtain hR := Option.some.inj hh
      subst hR
      exact ret_own (by rfl) (by rfl) (by rfl) (by simp only [List.length_map, List.length_cons, List.length_nil, Nat.zero_add, Nat.reduceAdd]) (by first | rfl | (simp only [lens_Prim.pv_eq, lens_Lens.pv_eq, diptychref13_Prim.pv_eq, diptychref13_Lens.pv_eq, pvL, List.map_cons, List.map_nil, List.map_append, rune1]; done) | (simp only [lens_Prim.pv_eq, lens_Lens.pv_eq, diptychref13_Prim.pv_eq, diptychref13_Lens.pv_eq, pvL, List.map_cons, List.map_nil, List.map_append, rune1]; rfl))
    · rw [if_neg h1] at hh
      replace h1 := Bool.eq_false_iff.mpr h1
      refine awp_false (by first | exact congrArg PV.bool h1 | rfl) ?_
      refine awp_skip ?_; refine nmx ?_
      refine awp_first fun K kk hK => ?_
      simp only [go_sem]
      refine hK _ _ fun nx => ?_; clear hK K; try clear kk
      refine awp_seq ?_
      refine awp_first fun K kk hK => ?_
      simp only [go_sem]
      refine hK _ _ fun nx => ?_; clear hK K; try clear kk
      obtain ⟨e0, f0, hh⟩ := bind_ex hh
      obtain ⟨hlen0, f0⟩ := chk_some f0
      refine awp_fragE (CutTo (fun s => ∃ out_15, out_15 = e0 ∧ ∃ (i_13 : Int) (v_14 : Bool) (nx : Nat) (g1 : Nat) (g3 : Nat), s = ⟨[(1, .box 1 g1 0), (3, .row 3 g3 out_15.length), (4, .int .i64 i_13), (18, .bool v_14)], [(1, g1, .var 58 [.int .u8 l_1.Prim.Op, .str l_1.Prim.Kind, .str l_1.Prim.Name, .str l_1.Prim.New, .list 1 (l_1.Prim.Values.map PV.str), .list 1 (l_1.Prim.To.map PV.str), .bool l_1.Turned, .list 8 (l_1.Kids.map diptychref13_Lens.pv)]), (3, g3, .row false 6 (out_15.map diptychref13_Prim.pv))], nx⟩))
        (fun i s => False)
        (fun s => False) ?_ ?_ ?_ ?_
      · refine awp_block ?_
        refine awp_loopJ fun I hI => ?_
        have key : ∀ (suf pre : List diptychref13_Lens) (i_5 : Int) (out_6 : (List diptychref13_Prim)), l_1.Kids = pre ++ suf → i_5 = (pre.length : Int) → diptychref13_Flat_l0 (diptychref13_Flat_k kr) suf i_5 out_6 = some e0 → ∀ (nx : Nat) (g1 : Nat) (g3 : Nat), I ⟨[(1, .box 1 g1 0), (3, .row 3 g3 out_6.length), (4, .int .i64 i_5)], [(1, g1, .var 58 [.int .u8 l_1.Prim.Op, .str l_1.Prim.Kind, .str l_1.Prim.Name, .str l_1.Prim.New, .list 1 (l_1.Prim.Values.map PV.str), .list 1 (l_1.Prim.To.map PV.str), .bool l_1.Turned, .list 8 (l_1.Kids.map diptychref13_Lens.pv)]), (3, g3, .row false 6 (out_6.map diptychref13_Prim.pv))], nx⟩ := by
          intro suf
          induction suf with
          | nil =>
            intro pre i_5 out_6 hsplit hidx hh nx g1 g3
            rw [diptychref13_Flat_l0] at hh
            refine hI _ ?_
            have h10 := walk_nil hsplit hidx
            refine awp_seq ?_
            refine awp_first fun K kk hK => ?_
            simp only [go_sem]
            refine hK _ _ fun nx => ?_; clear hK K; try clear kk
            refine awp_false (by first | exact congrArg PV.bool h10 | rfl) ?_
            refine awp_exit ?_; refine nmx ?_
            refine fragN ?_
            refine cut_id ?_
            refine ⟨_, (Option.some.inj hh), ?_⟩
            first | exact ⟨_, _, _, _, _, rfl⟩ | (simp only [lens_Prim.pv_eq, lens_Lens.pv_eq, diptychref13_Prim.pv_eq, diptychref13_Lens.pv_eq, pvL, List.map_cons, List.map_nil, List.map_append, rune1]; exact ⟨_, _, _, _, _, rfl⟩) | (simp only [lens_Prim.pv_eq, lens_Lens.pv_eq, diptychref13_Prim.pv_eq, diptychref13_Lens.pv_eq, pvL, List.map_cons, List.map_nil, List.map_append, rune1, h1, h10]; exact ⟨_, _, _, _, _, rfl⟩)
          | cons y_10 suf ih =>
            intro pre i_5 out_6 hsplit hidx hh nx g1 g3
            rw [diptychref13_Flat_l0] at hh
            refine hI _ ?_
            obtain ⟨hl0a, hl0b, hl0d, hl0w, h10⟩ := walk_cons (f := diptychref13_Lens.pv) hsplit hidx hlen0
            refine awp_seq ?_
            refine awp_first fun K kk hK => ?_
            simp only [go_sem]
            refine hK _ _ fun nx => ?_; clear hK K; try clear kk
            refine awp_true (by first | exact congrArg PV.bool h10 | rfl) ?_
            refine awp_skip ?_; refine nmx ?_
            refine awp_seq ?_
            refine awp_block ?_
            obtain ⟨flat_11, h11, hh⟩ := bind_ex hh
            obtain ⟨l_12, h12, hh⟩ := bind_ex hh
            obtain ⟨h12a, h12c⟩ := app_some h12
            have h12d := app_map (f := diptychref13_Prim.pv) h12c
            have h12e := app_len h12c
            try simp only [List.length_cons, List.length_nil, Nat.zero_add, Nat.reduceAdd] at h12a h12e
            try simp only [h12e] at h12a
            try simp only [List.map_cons, List.map_nil, List.nil_append, List.append_nil, List.cons_append, List.singleton_append, rune1, lens_Prim.pv_eq, lens_Lens.pv_eq, diptychref13_Prim.pv_eq, diptychref13_Lens.pv_eq, pvL] at h12d
            refine awp_region fun K kk hK => ?_
            simp only [go_sem, h12a, h12d, h12e, hl0a, hl0b, hl0d, hl0w]
            (repeat refine sd ?_)
            refine step_call2 (ih_diptychref13_Flat _ _ h11).list (by (try simp only [go_sem, h12a, h12d, h12e, hl0a, hl0b, hl0d, hl0w]) <;> exact wkl) (by rfl) (by rfl) ?_
            simp only [go_sem, h12a, h12d, h12e, hl0a, hl0b, hl0d, hl0w]
            (repeat refine sd ?_)
            refine hK _ _ fun nx => ?_; clear hK K; try clear kk
            refine nmx ?_
            refine awp_region fun K kk hK => ?_
            simp only [go_sem, hl0a, hl0b, hl0d, hl0w]
            refine hK _ _ fun nx => ?_; clear hK K; try clear kk
            refine nmx ?_
            have ih' := ih (pre ++ [y_10]) (i_5 + 1) _ (by rw [hsplit]; simp) (by simp [hidx]) hh nx
            refine cut_id ?_
            first | exact ih' _ _ | (simp only [lens_Prim.pv_eq, lens_Lens.pv_eq, diptychref13_Prim.pv_eq, diptychref13_Lens.pv_eq, pvL, List.map_cons, List.map_nil, List.map_append, rune1, h12e] at ih' ⊢; exact ih' _ _) | (simp only [lens_Prim.pv_eq, lens_Lens.pv_eq, diptychref13_Prim.pv_eq, diptychref13_Lens.pv_eq, pvL, List.map_cons, List.map_nil, List.map_append, rune1, h12e, h1, h10] at ih' ⊢; exact ih' _ _)
        exact key l_1.Kids [] _ _ rfl rfl f0 _ _ _
      · rintro s ⟨t, hless, out_15, rfl, i_13, v_14, nx, g1, g3, rfl⟩
        try dsimp only at hh
        refine nmy ?_
        first | (refine cut_less hless ?_; try refine cut_awp ?_) | refine frag_less hless ?_ | refine body_less hless ?_
        refine awp_seq ?_
        refine awp_first fun K kk hK => ?_
        simp only [go_sem]
        refine hK _ _ fun nx => ?_; clear hK K; try clear kk
        by_cases h13 : (!l_1.Turned) = true
        · rw [if_pos h13] at hh
          refine awp_true (by first | exact congrArg PV.bool h13 | rfl) ?_
          refine awp_first fun K kk hK => ?_
          simp only [go_sem]
          refine hK _ _ fun nx => ?_; clear hK K; try clear kk
          refine awp_ret ?_; refine nmx ?_
          obtain hR := Option.some.inj hh
          subst hR
          exact ret_own (by rfl) (by rfl) (by rfl) (by simp only [List.length_map, List.length_cons, List.length_nil, Nat.zero_add, Nat.reduceAdd]) (by first | rfl | (simp only [lens_Prim.pv_eq, lens_Lens.pv_eq, diptychref13_Prim.pv_eq, diptychref13_Lens.pv_eq, pvL, List.map_cons, List.map_nil, List.map_append, rune1]; done) | (simp only [lens_Prim.pv_eq, lens_Lens.pv_eq, diptychref13_Prim.pv_eq, diptychref13_Lens.pv_eq, pvL, List.map_cons, List.map_nil, List.map_append, rune1]; rfl))
        · rw [if_neg h13] at hh
          replace h13 := Bool.eq_false_iff.mpr h13
          refine awp_false (by first | exact congrArg PV.bool h13 | rfl) ?_
          refine awp_skip ?_; refine nmx ?_
          refine awp_first fun K kk hK => ?_
          simp only [go_sem]
          refine hK _ _ fun nx => ?_; clear hK K; try clear kk
          refine awp_seq ?_
          refine awp_first fun K kk hK => ?_
          simp only [go_sem]
          refine hK _ _ fun nx => ?_; clear hK K; try clear kk
          obtain ⟨e1, f1, hh⟩ := bind_ex hh
          refine awp_fragE (CutTo (fun s => ∃ back_26, back_26 = e1 ∧ ∃ (i_24 : Int) (v_25 : Bool) (nx : Nat) (g3 : Nat) (g5 : Nat), s = ⟨[(3, .row 3 g3 out_15.length), (5, .row 5 g5 back_26.length), (6, .int .i64 i_24), (37, .bool v_25)], [(3, g3, .row false 6 (out_15.map diptychref13_Prim.pv)), (5, g5, .row false 6 (back_26.map diptychref13_Prim.pv))], nx⟩))
            (fun i s => False)
            (fun s => False) ?_ ?_ ?_ ?_
          · refine awp_block ?_
            refine awp_loopJ fun I hI => ?_
            obtain ⟨k, f1⟩ := lim_some f1
            have key : ∀ (k : Nat) (i_19 : Int) (back_20 : (List diptychref13_Prim)), diptychref13_Flat_l1 out_15 k i_19 back_20 = some e1 → ∀ (nx : Nat) (g3 : Nat) (g5 : Nat), I ⟨[(3, .row 3 g3 out_15.length), (5, .row 5 g5 back_20.length), (6, .int .i64 i_19)], [(3, g3, .row false 6 (out_15.map diptychref13_Prim.pv)), (5, g5, .row false 6 (back_20.map diptychref13_Prim.pv))], nx⟩ := by
              intro k
              induction k with
              | zero => intro i_19 back_20 hh; rw [diptychref13_Flat_l1] at hh; cases hh
              | succ k ih =>
                intro i_19 back_20 hh nx g3 g5
                rw [diptychref13_Flat_l1] at hh
                refine hI _ ?_
                refine awp_seq ?_
                refine awp_first fun K kk hK => ?_
                simp only [go_sem]
                refine hK _ _ fun nx => ?_; clear hK K; try clear kk
                by_cases h18 : (decide (i_19 ≥ (0 : Int))) = true
                · rw [if_pos h18] at hh
                  refine awp_true (by first | exact congrArg PV.bool h18 | rfl) ?_
                  refine awp_skip ?_; refine nmx ?_
                  refine awp_seq ?_
                  refine awp_block ?_
                  obtain ⟨x_21, h19, hh⟩ := bind_ex hh
                  obtain ⟨h19a, h19b, h19c⟩ := rd_some h19
                  have h19d := rd_get (f := diptychref13_Prim.pv) h19c
                  have h19f := rd_more (f := diptychref13_Prim.pv) h19c
                  try simp only [Int.toNat_natCast, Int.reduceToNat] at h19d h19f
                  obtain ⟨turn_22, h20, hh⟩ := bind_ex hh
                  obtain ⟨l_23, h21, hh⟩ := bind_ex hh
                  obtain ⟨h21a, h21c⟩ := app_some h21
                  have h21d := app_map (f := diptychref13_Prim.pv) h21c
                  have h21e := app_len h21c
                  try simp only [List.length_cons, List.length_nil, Nat.zero_add, Nat.reduceAdd] at h21a h21e
                  try simp only [h21e] at h21a
                  try simp only [List.map_cons, List.map_nil, List.nil_append, List.append_nil, List.cons_append, List.singleton_append, rune1, lens_Prim.pv_eq, lens_Lens.pv_eq, diptychref13_Prim.pv_eq, diptychref13_Lens.pv_eq, pvL] at h21d
                  refine awp_region fun K kk hK => ?_
                  simp only [go_sem, h19a, h19b, h19d, h19f.1, h19f.2, h21a, h21d, h21e]
                  (repeat refine sd ?_)
                  refine step_call2 (diptychref13_Turn_ok _ _ h20) (by (try simp only [go_sem, h19a, h19b, h19d, h19f.1, h19f.2, h21a, h21d, h21e]) <;> exact wkl) (by rfl) (by rfl) ?_
                  simp only [go_sem, h19a, h19b, h19d, h19f.1, h19f.2, h21a, h21d, h21e]
                  (repeat refine sd ?_)
                  refine hK _ _ fun nx => ?_; clear hK K; try clear kk
                  refine nmx ?_
                  refine awp_region fun K kk hK => ?_
                  simp only [go_sem]
                  refine hK _ _ fun nx => ?_; clear hK K; try clear kk
                  refine nmx ?_
                  have ih' := ih _ _ hh nx
                  refine cut_id ?_
                  first | exact ih' _ _ | (simp only [lens_Prim.pv_eq, lens_Lens.pv_eq, diptychref13_Prim.pv_eq, diptychref13_Lens.pv_eq, pvL, List.map_cons, List.map_nil, List.map_append, rune1, h21e] at ih' ⊢; exact ih' _ _) | (simp only [lens_Prim.pv_eq, lens_Lens.pv_eq, diptychref13_Prim.pv_eq, diptychref13_Lens.pv_eq, pvL, List.map_cons, List.map_nil, List.map_append, rune1, h21e, h1, h13, h18] at ih' ⊢; exact ih' _ _)
                · rw [if_neg h18] at hh
                  replace h18 := Bool.eq_false_iff.mpr h18
                  refine awp_false (by first | exact congrArg PV.bool h18 | rfl) ?_
                  refine awp_exit ?_; refine nmx ?_
                  refine fragN ?_
                  refine cut_id ?_
                  refine ⟨_, (Option.some.inj hh), ?_⟩
                  first | exact ⟨_, _, _, _, _, rfl⟩ | (simp only [lens_Prim.pv_eq, lens_Lens.pv_eq, diptychref13_Prim.pv_eq, diptychref13_Lens.pv_eq, pvL, List.map_cons, List.map_nil, List.map_append, rune1]; exact ⟨_, _, _, _, _, rfl⟩) | (simp only [lens_Prim.pv_eq, lens_Lens.pv_eq, diptychref13_Prim.pv_eq, diptychref13_Lens.pv_eq, pvL, List.map_cons, List.map_nil, List.map_append, rune1, h1, h13, h18]; exact ⟨_, _, _, _, _, rfl⟩)
            exact key _ _ _ f1 _ _ _
          · rintro s ⟨t, hless, back_26, rfl, i_24, v_25, nx, g3, g5, rfl⟩
            try dsimp only at hh
            refine nmy ?_
            first | (refine cut_less hless ?_; try refine cut_awp ?_) | refine frag_less hless ?_ | refine body_less hless ?_
            refine awp_first fun K kk hK => ?_
            simp only [go_sem]
            refine hK _ _ fun nx => ?_; clear hK K; try clear kk
            refine awp_ret ?_; refine nmx ?_
            obtain hR := Option.some.inj hh
            subst hR
            exact ret_own (by rfl) (by rfl) (by rfl) (by simp only [List.length_map, List.length_cons, List.length_nil, Nat.zero_add, Nat.reduceAdd]) (by first | rfl | (simp only [lens_Prim.pv_eq, lens_Lens.pv_eq, diptychref13_Prim.pv_eq, diptychref13_Lens.pv_eq, pvL, List.map_cons, List.map_nil, List.map_append, rune1]; done) | (simp only [lens_Prim.pv_eq, lens_Lens.pv_eq, diptychref13_Prim.pv_eq, diptychref13_Lens.pv_eq, pvL, List.map_cons, List.map_nil, List.map_append, rune1]; rfl))
          · intro i s h; exact h.elim
          · intro s h; exact h.elim
      · intro i s h; exact h.elim
      · intro s h; exact h.elim
theorem diptychref13_Flat_ok (l_1 : diptychref13_Lens) (R : (List diptychref13_Prim)) (hh : diptychref13_Flat l_1 = some R) : PC Tryd.prog 36 [.agg [.int .u8 l_1.Prim.Op, .str l_1.Prim.Kind, .str l_1.Prim.Name, .str l_1.Prim.New, .list 1 (l_1.Prim.Values.map PV.str), .list 1 (l_1.Prim.To.map PV.str), .bool l_1.Turned, .list 8 (l_1.Kids.map diptychref13_Lens.pv)]] (.own 6 (R.map diptychref13_Prim.pv)) := by
  rw [diptychref13_Flat] at hh
  obtain ⟨kr, hh⟩ := lim_some hh
  exact (diptychref13_Flat_grp kr) _ _ hh
theorem diptychlaw13_LensReads_ok (l_1 : lens_Lens) (R : Bool) (hh : diptychlaw13_LensReads l_1 = some R) : PC Tryd.prog 5 [.agg [.int .u8 l_1.Prim.Op, .str l_1.Prim.Kind, .str l_1.Prim.Name, .str l_1.Prim.New, .list 1 (l_1.Prim.Values.map PV.str), .list 1 (l_1.Prim.To.map PV.str), .bool l_1.Turned, .list 8 (l_1.Kids.map lens_Lens.pv)]] (.bool R) := by
  rw [diptychlaw13_LensReads] at hh
  refine start_diptychlaw13_LensReads rfl ?_
  refine awp_first fun K kk hK => ?_
  simp only [go_sem]
  refine hK _ _ fun nx => ?_; clear hK K; try clear kk
  obtain ⟨shown_2, h1, hh⟩ := bind_ex hh
  refine awp_first fun K kk hK => ?_
  simp only [go_sem]
  refine step_call2 (diptychlaw13_shown_ok _ h1) (by (try simp only [go_sem]) <;> exact wkl) (by rfl) (by rfl) ?_
  simp only [go_sem]
  refine hK _ _ fun nx => ?_; clear hK K; try clear kk
  refine awp_seq ?_
  by_cases h2 : (!shown_2) = true
  · rw [if_pos h2] at hh
    refine awp_first fun K kk hK => ?_
    simp only [go_sem, h2, h2]
    (repeat refine sd ?_)
    refine hK _ _ fun nx => ?_; clear hK K; try clear kk
    refine awp_true rfl ?_
    refine awp_first fun K kk hK => ?_
    simp only [go_sem]
    refine hK _ _ fun nx => ?_; clear hK K; try clear kk
    refine awp_ret ?_; refine nmx ?_
    obtain hR := Option.some.inj hh
    subst hR
    exact ret_p2
  · rw [if_neg h2] at hh
    replace h2 := Bool.eq_false_iff.mpr h2
    obtain ⟨light_3, h3, hh⟩ := bind_ex hh
    refine awp_first fun K kk hK => ?_
    simp only [go_sem, h2, h2]
    (repeat refine sd ?_)
    refine step_call2 (diptychlaw13_light_ok _ _ _ h3) (by (try simp only [go_sem, h2, h2]) <;> exact wkl) (by rfl) (by rfl) ?_
    simp only [go_sem, h2, h2]
    (repeat refine sd ?_)
    refine hK _ _ fun nx => ?_; clear hK K; try clear kk
    by_cases h4 : (decide (light_3 < (0 : Int))) = true
    · rw [if_pos h4] at hh
      refine awp_true (by first | exact congrArg PV.bool h4 | rfl) ?_
      refine awp_first fun K kk hK => ?_
      simp only [go_sem]
      refine hK _ _ fun nx => ?_; clear hK K; try clear kk
      refine awp_ret ?_; refine nmx ?_
      obtain hR := Option.some.inj hh
      subst hR
      exact ret_p2
    · rw [if_neg h4] at hh
      replace h4 := Bool.eq_false_iff.mpr h4
      refine awp_false (by first | exact congrArg PV.bool h4 | rfl) ?_
      refine awp_skip ?_; refine nmx ?_
      obtain ⟨aslens_4, h5, hh⟩ := bind_ex hh
      refine awp_first fun K kk hK => ?_
      simp only [go_sem]
      refine step_call2 (diptychlaw13_asLens_ok _ _ h5) (by (try simp only [go_sem]) <;> exact wkl) (by rfl) (by rfl) ?_
      simp only [go_sem]
      refine hK _ _ fun nx => ?_; clear hK K; try clear kk
      obtain ⟨⟨r_5, r_6⟩, h6, hh⟩ := bind_ex hh
      dsimp only at hh
      refine awp_first fun K kk hK => ?_
      simp only [go_sem]
      refine step_call2 (lens_Print_ok _ _ h6) (by (try simp only [go_sem]) <;> exact wkl) (by rfl) (by rfl) ?_
      simp only [go_sem]
      refine hK _ _ fun nx => ?_; clear hK K; try clear kk
      obtain ⟨⟨r_7, r_8⟩, h7, hh⟩ := bind_ex hh
      dsimp only at hh
      refine awp_first fun K kk hK => ?_
      simp only [go_sem]
      refine step_call2 (diptychref13_Print_ok _ _ h7) (by (try simp only [go_sem]) <;> exact wkl) (by rfl) (by rfl) ?_
      simp only [go_sem]
      refine hK _ _ fun nx => ?_; clear hK K; try clear kk
      refine awp_seq ?_
      obtain ⟨right_9, h8, hh⟩ := bind_ex hh
      obtain ⟨right_10, h9, hh⟩ := bind_ex hh
      by_cases h10 : (((right_9 == right_10) != true)) = true
      · rw [if_pos h10] at hh
        refine awp_first fun K kk hK => ?_
        simp only [go_sem, h10, h10]
        (repeat refine sd ?_)
        refine step_call2 (lens_Right_ok _ _ h8) (by (try simp only [go_sem, h10, h10]) <;> exact wkl) (by rfl) (by rfl) ?_
        simp only [go_sem, h10, h10]
        (repeat refine sd ?_)
        refine step_call2 (diptychref13_Right_ok _ _ h9) (by (try simp only [go_sem, h10, h10]) <;> exact wkl) (by rfl) (by rfl) ?_
        simp only [go_sem, h10, h10]
        (repeat refine sd ?_)
        refine hK _ _ fun nx => ?_; clear hK K; try clear kk
        refine awp_true rfl ?_
        refine awp_first fun K kk hK => ?_
        simp only [go_sem]
        refine hK _ _ fun nx => ?_; clear hK K; try clear kk
        refine awp_ret ?_; refine nmx ?_
        obtain hR := Option.some.inj hh
        subst hR
        exact ret_p2
      · rw [if_neg h10] at hh
        replace h10 := Bool.eq_false_iff.mpr h10
        by_cases h11 : (!(r_5 == r_7)) = true
        · rw [if_pos h11] at hh
          refine awp_first fun K kk hK => ?_
          simp only [go_sem, h10, h10, h11, h11]
          (repeat refine sd ?_)
          refine step_call2 (lens_Right_ok _ _ h8) (by (try simp only [go_sem, h10, h10, h11, h11]) <;> exact wkl) (by rfl) (by rfl) ?_
          simp only [go_sem, h10, h10, h11, h11]
          (repeat refine sd ?_)
          refine step_call2 (diptychref13_Right_ok _ _ h9) (by (try simp only [go_sem, h10, h10, h11, h11]) <;> exact wkl) (by rfl) (by rfl) ?_
          simp only [go_sem, h10, h10, h11, h11]
          (repeat refine sd ?_)
          refine hK _ _ fun nx => ?_; clear hK K; try clear kk
          refine awp_true rfl ?_
          refine awp_first fun K kk hK => ?_
          simp only [go_sem]
          refine hK _ _ fun nx => ?_; clear hK K; try clear kk
          refine awp_ret ?_; refine nmx ?_
          obtain hR := Option.some.inj hh
          subst hR
          exact ret_p2
        · rw [if_neg h11] at hh
          replace h11 := Bool.eq_false_iff.mpr h11
          by_cases h12 : (r_6 != r_8) = true
          · rw [if_pos h12] at hh
            refine awp_first fun K kk hK => ?_
            simp only [go_sem, h10, h10, h11, h11, h12, h12]
            (repeat refine sd ?_)
            refine step_call2 (lens_Right_ok _ _ h8) (by (try simp only [go_sem, h10, h10, h11, h11, h12, h12]) <;> exact wkl) (by rfl) (by rfl) ?_
            simp only [go_sem, h10, h10, h11, h11, h12, h12]
            (repeat refine sd ?_)
            refine step_call2 (diptychref13_Right_ok _ _ h9) (by (try simp only [go_sem, h10, h10, h11, h11, h12, h12]) <;> exact wkl) (by rfl) (by rfl) ?_
            simp only [go_sem, h10, h10, h11, h11, h12, h12]
            (repeat refine sd ?_)
            refine hK _ _ fun nx => ?_; clear hK K; try clear kk
            refine awp_true rfl ?_
            refine awp_first fun K kk hK => ?_
            simp only [go_sem]
            refine hK _ _ fun nx => ?_; clear hK K; try clear kk
            refine awp_ret ?_; refine nmx ?_
            obtain hR := Option.some.inj hh
            subst hR
            exact ret_p2
          · rw [if_neg h12] at hh
            replace h12 := Bool.eq_false_iff.mpr h12
            obtain ⟨turn_11, h13, hh⟩ := bind_ex hh
            obtain ⟨turn_12, h14, hh⟩ := bind_ex hh
            obtain ⟨samepr_13, h15, hh⟩ := bind_ex hh
            refine awp_first fun K kk hK => ?_
            simp only [go_sem, h10, h10, h11, h11, h12, h12]
            (repeat refine sd ?_)
            refine step_call2 (lens_Right_ok _ _ h8) (by (try simp only [go_sem, h10, h10, h11, h11, h12, h12]) <;> exact wkl) (by rfl) (by rfl) ?_
            simp only [go_sem, h10, h10, h11, h11, h12, h12]
            (repeat refine sd ?_)
            refine step_call2 (diptychref13_Right_ok _ _ h9) (by (try simp only [go_sem, h10, h10, h11, h11, h12, h12]) <;> exact wkl) (by rfl) (by rfl) ?_
            simp only [go_sem, h10, h10, h11, h11, h12, h12]
            (repeat refine sd ?_)
            refine step_call2 (lens_Turn_ok _ _ h13) (by (try simp only [go_sem, h10, h10, h11, h11, h12, h12]) <;> exact wkl) (by rfl) (by rfl) ?_
            simp only [go_sem, h10, h10, h11, h11, h12, h12]
            (repeat refine sd ?_)
            refine step_call2 (diptychref13_Turn_ok _ _ h14) (by (try simp only [go_sem, h10, h10, h11, h11, h12, h12]) <;> exact wkl) (by rfl) (by rfl) ?_
            simp only [go_sem, h10, h10, h11, h11, h12, h12]
            (repeat refine sd ?_)
            refine step_call2 (diptychlaw13_samePrim_ok _ _ _ h15) (by (try simp only [go_sem, h10, h10, h11, h11, h12, h12]) <;> exact wkl) (by rfl) (by rfl) ?_
            simp only [go_sem, h10, h10, h11, h11, h12, h12]
            (repeat refine sd ?_)
            refine hK _ _ fun nx => ?_; clear hK K; try clear kk
            by_cases h16 : (!samepr_13) = true
            · rw [if_pos h16] at hh
              refine awp_true (by first | exact congrArg PV.bool h16 | rfl) ?_
              refine awp_first fun K kk hK => ?_
              simp only [go_sem]
              refine hK _ _ fun nx => ?_; clear hK K; try clear kk
              refine awp_ret ?_; refine nmx ?_
              obtain hR := Option.some.inj hh
              subst hR
              exact ret_p2
            · rw [if_neg h16] at hh
              replace h16 := Bool.eq_false_iff.mpr h16
              refine awp_false (by first | exact congrArg PV.bool h16 | rfl) ?_
              refine awp_skip ?_; refine nmx ?_
              obtain ⟨right_14, h17, hh⟩ := bind_ex hh
              by_cases h18 : (!right_14) = true
              · rw [if_pos h18] at hh
                refine awp_first fun K kk hK => ?_
                simp only [go_sem, h18, h18]
                (repeat refine sd ?_)
                refine step_call2 (lens_Right_ok _ _ h17) (by (try simp only [go_sem, h18, h18]) <;> exact wkl) (by rfl) (by rfl) ?_
                simp only [go_sem, h18, h18]
                (repeat refine sd ?_)
                refine hK _ _ fun nx => ?_; clear hK K; try clear kk
                refine awp_ret ?_; refine nmx ?_
                obtain hR := Option.some.inj hh
                subst hR
                exact ret_p2
              · rw [if_neg h18] at hh
                replace h18 := Bool.eq_false_iff.mpr h18
                obtain ⟨flat_15, h19, hh⟩ := bind_ex hh
                obtain ⟨flat_16, h20, hh⟩ := bind_ex hh
                obtain ⟨samepr_17, h21, hh⟩ := bind_ex hh
                refine awp_first fun K kk hK => ?_
                simp only [go_sem, h18, h18]
                (repeat refine sd ?_)
                refine step_call2 (lens_Right_ok _ _ h17) (by (try simp only [go_sem, h18, h18]) <;> exact wkl) (by rfl) (by rfl) ?_
                simp only [go_sem, h18, h18]
                (repeat refine sd ?_)
                refine step_call2 (lens_Flat_ok _ _ h19).list (by (try simp only [go_sem, h18, h18]) <;> exact wkl) (by rfl) (by rfl) ?_
                simp only [go_sem, h18, h18]
                (repeat refine sd ?_)
                refine step_call2 (diptychref13_Flat_ok _ _ h20).list (by (try simp only [go_sem, h18, h18]) <;> exact wkl) (by rfl) (by rfl) ?_
                simp only [go_sem, h18, h18]
                (repeat refine sd ?_)
                refine step_call2 (diptychlaw13_samePrims_ok _ _ _ h21) (by (try simp only [go_sem, h18, h18]) <;> exact wkl) (by rfl) (by rfl) ?_
                simp only [go_sem, h18, h18]
                (repeat refine sd ?_)
                refine hK _ _ fun nx => ?_; clear hK K; try clear kk
                refine awp_ret ?_; refine nmx ?_
                obtain hR := Option.some.inj hh
                subst hR
                exact ret_p2

end Go.Proofs.YtpjdafhmneiohaaDoor
