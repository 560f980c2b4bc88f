/- What the functions answer, the program answers (1). -/
import Derived.Test.YtihndopckmdpbaaDoorAgC
import Derived.Test.YtihndopckmdpbaaDoorAgF
import Derived.Test.YtihndopckmdpbaaDoorAgK0
namespace Go.Proofs.YtihndopckmdpbaaDoor
set_option linter.unusedSimpArgs false
set_option linter.unusedVariables false
open Go
set_option maxRecDepth 100000

theorem diptychref1_Join_ok (l_1 : (List api_Node)) (R : (List api_Node)) (hh : diptychref1_Join l_1 = some R) : PC Tryd.prog 57 [.list 5 (l_1.map api_Node.pv)] (.own 5 (R.map api_Node.pv)) := by
  rw [diptychref1_Join] at hh
  refine start_diptychref1_Join rfl ?_
  refine awp_first fun K kk hK => ?_
  simp only [go_sem]
  refine hK _ _ fun nx => ?_; clear hK K; try clear kk
  refine awp_first fun K kk hK => ?_
  simp only [go_sem]
  refine hK _ _ fun nx => ?_; clear hK K; try clear kk
  refine awp_seq ?_
  refine awp_first fun K kk hK => ?_
  simp only [go_sem]
  refine hK _ _ fun nx => ?_; clear hK K; try clear kk
  obtain ⟨e0, f0, hh⟩ := bind_ex hh
  obtain ⟨hlen0, f0⟩ := chk_some f0
  refine awp_fragE (CutTo (fun s => ∃ out_39, out_39 = e0 ∧ ∃ (i_37 : Int) (v_38 : Bool) (nx : Nat) (g3 : Nat), s = ⟨[(0, .list 5 (l_1.map api_Node.pv)), (3, .row 3 g3 out_39.length), (4, .int .i64 i_37), (10, .bool v_38)], [(3, g3, .row false 5 (out_39.map api_Node.pv))], nx⟩))
    (fun i s => False)
    (fun s => False) ?_ ?_ ?_ ?_
  · refine awp_block ?_
    refine awp_loopJ fun I hI => ?_
    have key : ∀ (suf pre : List api_Node) (i_13 : Int) (out_14 : (List api_Node)), l_1 = pre ++ suf → i_13 = (pre.length : Int) → diptychref1_Join_l0 suf i_13 out_14 = some e0 → ∀ (nx : Nat) (g3 : Nat), I ⟨[(0, .list 5 (l_1.map api_Node.pv)), (3, .row 3 g3 out_14.length), (4, .int .i64 i_13)], [(3, g3, .row false 5 (out_14.map api_Node.pv))], nx⟩ := by
      intro suf
      induction suf with
      | nil =>
        intro pre i_13 out_14 hsplit hidx hh nx g3
        rw [diptychref1_Join_l0] at hh
        refine hI _ ?_
        have h37 := walk_nil hsplit hidx
        refine awp_seq ?_
        refine awp_first fun K kk hK => ?_
        simp only [go_sem]
        refine hK _ _ fun nx => ?_; clear hK K; try clear kk
        refine awp_false (by first | exact congrArg PV.bool h37 | rfl) ?_
        refine awp_exit ?_; refine nmx ?_
        refine fragN ?_
        refine cut_id ?_
        refine ⟨_, (Option.some.inj hh), ?_⟩
        first | exact ⟨_, _, _, _, rfl⟩ | (simp only [api_Attr.pv_eq, api_Node.pv_eq, codec_reader.pv_eq, diptychlaw2_Cell.pv_eq, pvL, List.map_cons, List.map_nil, List.map_append, rune1]; exact ⟨_, _, _, _, rfl⟩) | (simp only [api_Attr.pv_eq, api_Node.pv_eq, codec_reader.pv_eq, diptychlaw2_Cell.pv_eq, pvL, List.map_cons, List.map_nil, List.map_append, rune1, h37]; exact ⟨_, _, _, _, rfl⟩)
      | cons y_26 suf ih =>
        intro pre i_13 out_14 hsplit hidx hh nx g3
        rw [diptychref1_Join_l0] at hh
        refine hI _ ?_
        obtain ⟨hl0a, hl0b, hl0d, hl0w, h37⟩ := walk_cons (f := api_Node.pv) hsplit hidx hlen0
        refine awp_seq ?_
        refine awp_first fun K kk hK => ?_
        simp only [go_sem]
        refine hK _ _ fun nx => ?_; clear hK K; try clear kk
        refine awp_true (by first | exact congrArg PV.bool h37 | rfl) ?_
        refine awp_skip ?_; refine nmx ?_
        refine awp_seq ?_
        refine awp_block ?_
        refine awp_first fun K kk hK => ?_
        simp only [go_sem, hl0a, hl0b, hl0d, hl0w]
        refine hK _ _ fun nx => ?_; clear hK K; try clear kk
        refine awp_first fun K kk hK => ?_
        simp only [go_sem, hl0a, hl0b, hl0d, hl0w]
        refine hK _ _ fun nx => ?_; clear hK K; try clear kk
        refine awp_seq ?_
        obtain ⟨e3, f3, hh⟩ := bind_ex hh
        refine awp_frag (fun s => .inr () = e3 ∧ ∃ (v_27 : Bool) (nx : Nat) (g3 : Nat) (g5 : Nat), s = ⟨[(0, .list 5 (l_1.map api_Node.pv)), (3, .row 3 g3 out_14.length), (4, .int .i64 i_13), (5, .box 5 g5 0), (6, .int .i64 (w64 ((out_14.length : Int) - (1 : Int)))), (27, .bool v_27)], [(3, g3, .row false 5 (out_14.map api_Node.pv)), (5, g5, .var 26 [.str y_26.Kind, .str y_26.Text, .list 1 (y_26.Marks.map PV.str), .list 2 (y_26.Attrs.map api_Attr.pv), .list 5 (y_26.Kids.map api_Node.pv)])], nx⟩)
          (fun i s => (i = 1 ∧ .inl () = e3 ∧ ∃ (nx : Nat) (g3 : Nat) (g5 : Nat), s = ⟨[(0, .list 5 (l_1.map api_Node.pv)), (3, .row 3 g3 out_14.length), (4, .int .i64 i_13), (5, .box 5 g5 0), (6, .int .i64 (w64 ((out_14.length : Int) - (1 : Int)))), (27, .bool (y_26.Text == ([] : Str)))], [(3, g3, .row false 5 (out_14.map api_Node.pv)), (5, g5, .var 26 [.str y_26.Kind, .str y_26.Text, .list 1 (y_26.Marks.map PV.str), .list 2 (y_26.Attrs.map api_Attr.pv), .list 5 (y_26.Kids.map api_Node.pv)])], nx⟩))
          (fun s => False) ?_ ?_ ?_ ?_
        · have hh := f3
          by_cases h38 : (y_26.Kind == ([116, 101, 120, 116] : Str)) = true
          · rw [if_pos h38] at hh
            refine awp_first fun K kk hK => ?_
            simp only [go_sem, h38, h38, hl0a, hl0b, hl0d, hl0w]
            (repeat refine sd ?_)
            refine hK _ _ fun nx => ?_; clear hK K; try clear kk
            by_cases h39 : (y_26.Text == ([] : Str)) = true
            · rw [if_pos h39] at hh
              refine awp_true (by first | exact congrArg PV.bool h39 | rfl) ?_
              refine awp_exit ?_; refine nmx ?_
              refine fragE ⟨rfl, (Option.some.inj hh), ?_⟩
              first | exact ⟨_, _, _, rfl⟩ | (simp only [api_Attr.pv_eq, api_Node.pv_eq, codec_reader.pv_eq, diptychlaw2_Cell.pv_eq, pvL, List.map_cons, List.map_nil, List.map_append, rune1]; exact ⟨_, _, _, rfl⟩) | (simp only [api_Attr.pv_eq, api_Node.pv_eq, codec_reader.pv_eq, diptychlaw2_Cell.pv_eq, pvL, List.map_cons, List.map_nil, List.map_append, rune1, h37, h38, h39]; exact ⟨_, _, _, rfl⟩)
            · rw [if_neg h39] at hh
              replace h39 := Bool.eq_false_iff.mpr h39
              refine awp_false (by first | exact congrArg PV.bool h39 | rfl) ?_
              refine awp_skip ?_; refine nmx ?_
              refine fragN ?_
              refine cut_id ?_
              refine ⟨(Option.some.inj hh), ?_⟩
              first | exact ⟨_, _, _, _, rfl⟩ | (simp only [api_Attr.pv_eq, api_Node.pv_eq, codec_reader.pv_eq, diptychlaw2_Cell.pv_eq, pvL, List.map_cons, List.map_nil, List.map_append, rune1]; exact ⟨_, _, _, _, rfl⟩) | (simp only [api_Attr.pv_eq, api_Node.pv_eq, codec_reader.pv_eq, diptychlaw2_Cell.pv_eq, pvL, List.map_cons, List.map_nil, List.map_append, rune1, h37, h38, h39]; exact ⟨_, _, _, _, rfl⟩)
          · rw [if_neg h38] at hh
            replace h38 := Bool.eq_false_iff.mpr h38
            refine awp_first fun K kk hK => ?_
            simp only [go_sem, h38, h38, hl0a, hl0b, hl0d, hl0w]
            (repeat refine sd ?_)
            refine hK _ _ fun nx => ?_; clear hK K; try clear kk
            refine awp_false rfl ?_
            refine awp_skip ?_; refine nmx ?_
            refine fragN ?_
            refine cut_id ?_
            refine ⟨(Option.some.inj hh), ?_⟩
            first | exact ⟨_, _, _, _, rfl⟩ | (simp only [api_Attr.pv_eq, api_Node.pv_eq, codec_reader.pv_eq, diptychlaw2_Cell.pv_eq, pvL, List.map_cons, List.map_nil, List.map_append, rune1]; exact ⟨_, _, _, _, rfl⟩) | (simp only [api_Attr.pv_eq, api_Node.pv_eq, codec_reader.pv_eq, diptychlaw2_Cell.pv_eq, pvL, List.map_cons, List.map_nil, List.map_append, rune1, h37, h38]; exact ⟨_, _, _, _, rfl⟩)
        · rintro s ⟨rfl, v_27, nx, g3, g5, rfl⟩
          try dsimp only at hh
          refine awp_seq ?_
          by_cases h40 : (y_26.Kind == ([116, 101, 120, 116] : Str)) = true
          · rw [if_pos h40] at hh
            by_cases h41 : (decide ((w64 ((out_14.length : Int) - (1 : Int))) ≥ (0 : Int))) = true
            · rw [if_pos h41] at hh
              obtain ⟨x_28, h42, hh⟩ := bind_ex hh
              obtain ⟨h42a, h42b, h42c⟩ := rd_some h42
              have h42d := rd_get (f := api_Node.pv) h42c
              have h42f := rd_more (f := api_Node.pv) h42c
              try simp only [Int.toNat_natCast, Int.reduceToNat] at h42d h42f
              by_cases h43 : (x_28.Kind == ([116, 101, 120, 116] : Str)) = true
              · rw [if_pos h43] at hh
                obtain ⟨samena_29, h44, hh⟩ := bind_ex hh
                refine awp_first fun K kk hK => ?_
                simp only [go_sem, h40, h40, h41, of_decide_eq_true h41, h42a, h42b, h42d, h42f.1, h42f.2, h41, of_decide_eq_true h41, h43, h42a, h42b, h42d, h42f.1, h42f.2, h43, hl0a, hl0b, hl0d, hl0w]
                (repeat refine sd ?_)
                refine step_call2 (diptychref1_sameNames_ok _ _ _ h44) (by (try simp only [go_sem, h40, h40, h41, of_decide_eq_true h41, h42a, h42b, h42d, h42f.1, h42f.2, h41, of_decide_eq_true h41, h43, h42a, h42b, h42d, h42f.1, h42f.2, h43, hl0a, hl0b, hl0d, hl0w]) <;> exact wkl) (by rfl) (by rfl) ?_
                simp only [go_sem, h40, h40, h41, of_decide_eq_true h41, h42a, h42b, h42d, h42f.1, h42f.2, h41, of_decide_eq_true h41, h43, h42a, h42b, h42d, h42f.1, h42f.2, h43, hl0a, hl0b, hl0d, hl0w]
                (repeat refine sd ?_)
                refine hK _ _ fun nx => ?_; clear hK K; try clear kk
                by_cases h45 : (samena_29) = true
                · rw [if_pos h45] at hh
                  refine awp_true (by first | exact congrArg PV.bool h45 | rfl) ?_
                  obtain ⟨h46, hh⟩ := chk_some hh
                  refine awp_first fun K kk hK => ?_
                  simp only [go_sem, h42a, h42b, h42d, h42f.1, h42f.2, h46, hl0a, hl0b, hl0d, hl0w]
                  (repeat refine sd ?_)
                  refine hK _ _ fun nx => ?_; clear hK K; try clear kk
                  obtain ⟨s_30, h47, hh⟩ := bind_ex hh
                  obtain ⟨h47a, h47c⟩ := sl_some h47
                  have h47g := sl_le h47a
                  have h47d := sl_map0 (f := api_Node.pv) h47c
                  try simp only [Int.toNat_natCast, Int.reduceToNat, List.map_cons, List.map_nil, api_Attr.pv_eq, api_Node.pv_eq, codec_reader.pv_eq, diptychlaw2_Cell.pv_eq, pvL] at h47d
                  obtain ⟨l_31, h48, hh⟩ := bind_ex hh
                  obtain ⟨h48a, h48c⟩ := app_some h48
                  have h48d := app_map (f := api_Node.pv) h48c
                  have h48e := app_len h48c
                  try simp only [List.length_cons, List.length_nil, Nat.zero_add, Nat.reduceAdd] at h48a h48e
                  try simp only [h48e] at h48a
                  try simp only [List.map_cons, List.map_nil, List.nil_append, List.append_nil, List.cons_append, List.singleton_append, rune1, api_Attr.pv_eq, api_Node.pv_eq, codec_reader.pv_eq, diptychlaw2_Cell.pv_eq, pvL] at h48d
                  obtain ⟨l_32, h49, hh⟩ := bind_ex hh
                  obtain ⟨h49a, h49c⟩ := app_some h49
                  have h49d := app_map (f := api_Node.pv) h49c
                  have h49e := app_len h49c
                  try simp only [List.length_cons, List.length_nil, Nat.zero_add, Nat.reduceAdd] at h49a h49e
                  try simp only [h49e] at h49a
                  try simp only [List.map_cons, List.map_nil, List.nil_append, List.append_nil, List.cons_append, List.singleton_append, rune1, api_Attr.pv_eq, api_Node.pv_eq, codec_reader.pv_eq, diptychlaw2_Cell.pv_eq, pvL] at h49d
                  refine awp_first fun K kk hK => ?_
                  simp only [go_sem, h47a.1, h47a.2.1, h47a.2.2, h47d, h47g, h48a, h48d, h48e, h49a, h49d, h49e, hl0a, hl0b, hl0d, hl0w]
                  (repeat refine sd ?_)
                  refine hK _ _ fun nx => ?_; clear hK K; try clear kk
                  refine awp_exit ?_; refine nmx ?_
                  refine awp_region fun K kk hK => ?_
                  simp only [go_sem, hl0a, hl0b, hl0d, hl0w]
                  refine hK _ _ fun nx => ?_; clear hK K; try clear kk
                  refine nmx ?_
                  have ih' := ih (pre ++ [y_26]) (i_13 + 1) _ (by rw [hsplit]; simp) (by simp [hidx]) hh nx
                  refine cut_id ?_
                  first | exact ih' _ | (simp only [api_Attr.pv_eq, api_Node.pv_eq, codec_reader.pv_eq, diptychlaw2_Cell.pv_eq, pvL, List.map_cons, List.map_nil, List.map_append, rune1, h48e, h48d, h49e] at ih' ⊢; exact ih' _) | (simp only [api_Attr.pv_eq, api_Node.pv_eq, codec_reader.pv_eq, diptychlaw2_Cell.pv_eq, pvL, List.map_cons, List.map_nil, List.map_append, rune1, h48e, h48d, h49e, h37, h40, h41, h43, h45] at ih' ⊢; exact ih' _)
                · rw [if_neg h45] at hh
                  replace h45 := Bool.eq_false_iff.mpr h45
                  refine awp_false (by first | exact congrArg PV.bool h45 | rfl) ?_
                  refine awp_skip ?_; refine nmx ?_
                  obtain ⟨l_33, h50, hh⟩ := bind_ex hh
                  obtain ⟨h50a, h50c⟩ := app_some h50
                  have h50d := app_map (f := api_Node.pv) h50c
                  have h50e := app_len h50c
                  try simp only [List.length_cons, List.length_nil, Nat.zero_add, Nat.reduceAdd] at h50a h50e
                  try simp only [h50e] at h50a
                  try simp only [List.map_cons, List.map_nil, List.nil_append, List.append_nil, List.cons_append, List.singleton_append, rune1, api_Attr.pv_eq, api_Node.pv_eq, codec_reader.pv_eq, diptychlaw2_Cell.pv_eq, pvL] at h50d
                  refine awp_region fun K kk hK => ?_
                  simp only [go_sem, h50a, h50d, h50e, hl0a, hl0b, hl0d, hl0w]
                  (repeat refine sd ?_)
                  refine hK _ _ fun nx => ?_; clear hK K; try clear kk
                  refine nmx ?_
                  refine awp_region fun K kk hK => ?_
                  simp only [go_sem, hl0a, hl0b, hl0d, hl0w]
                  refine hK _ _ fun nx => ?_; clear hK K; try clear kk
                  refine nmx ?_
                  have ih' := ih (pre ++ [y_26]) (i_13 + 1) _ (by rw [hsplit]; simp) (by simp [hidx]) hh nx
                  refine cut_id ?_
                  first | exact ih' _ | (simp only [api_Attr.pv_eq, api_Node.pv_eq, codec_reader.pv_eq, diptychlaw2_Cell.pv_eq, pvL, List.map_cons, List.map_nil, List.map_append, rune1, h50e] at ih' ⊢; exact ih' _) | (simp only [api_Attr.pv_eq, api_Node.pv_eq, codec_reader.pv_eq, diptychlaw2_Cell.pv_eq, pvL, List.map_cons, List.map_nil, List.map_append, rune1, h50e, h37, h40, h41, h43, h45] at ih' ⊢; exact ih' _)
              · rw [if_neg h43] at hh
                replace h43 := Bool.eq_false_iff.mpr h43
                refine awp_first fun K kk hK => ?_
                simp only [go_sem, h40, h40, h41, of_decide_eq_true h41, h42a, h42b, h42d, h42f.1, h42f.2, h41, of_decide_eq_true h41, h43, h43, hl0a, hl0b, hl0d, hl0w]
                (repeat refine sd ?_)
                refine hK _ _ fun nx => ?_; clear hK K; try clear kk
                refine awp_false rfl ?_
                refine awp_skip ?_; refine nmx ?_
                obtain ⟨l_34, h51, hh⟩ := bind_ex hh
                obtain ⟨h51a, h51c⟩ := app_some h51
                have h51d := app_map (f := api_Node.pv) h51c
                have h51e := app_len h51c
                try simp only [List.length_cons, List.length_nil, Nat.zero_add, Nat.reduceAdd] at h51a h51e
                try simp only [h51e] at h51a
                try simp only [List.map_cons, List.map_nil, List.nil_append, List.append_nil, List.cons_append, List.singleton_append, rune1, api_Attr.pv_eq, api_Node.pv_eq, codec_reader.pv_eq, diptychlaw2_Cell.pv_eq, pvL] at h51d
                refine awp_region fun K kk hK => ?_
                simp only [go_sem, h51a, h51d, h51e, hl0a, hl0b, hl0d, hl0w]
                (repeat refine sd ?_)
                refine hK _ _ fun nx => ?_; clear hK K; try clear kk
                refine nmx ?_
                refine awp_region fun K kk hK => ?_
                simp only [go_sem, hl0a, hl0b, hl0d, hl0w]
                refine hK _ _ fun nx => ?_; clear hK K; try clear kk
                refine nmx ?_
                have ih' := ih (pre ++ [y_26]) (i_13 + 1) _ (by rw [hsplit]; simp) (by simp [hidx]) hh nx
                refine cut_id ?_
                first | exact ih' _ | (simp only [api_Attr.pv_eq, api_Node.pv_eq, codec_reader.pv_eq, diptychlaw2_Cell.pv_eq, pvL, List.map_cons, List.map_nil, List.map_append, rune1, h51e] at ih' ⊢; exact ih' _) | (simp only [api_Attr.pv_eq, api_Node.pv_eq, codec_reader.pv_eq, diptychlaw2_Cell.pv_eq, pvL, List.map_cons, List.map_nil, List.map_append, rune1, h51e, h37, h40, h41, h43] at ih' ⊢; exact ih' _)
            · rw [if_neg h41] at hh
              replace h41 := Bool.eq_false_iff.mpr h41
              refine awp_first fun K kk hK => ?_
              simp only [go_sem, h40, h40, h41, of_decide_eq_false h41, h41, of_decide_eq_false h41, hl0a, hl0b, hl0d, hl0w]
              (repeat refine sd ?_)
              refine hK _ _ fun nx => ?_; clear hK K; try clear kk
              refine awp_false rfl ?_
              refine awp_skip ?_; refine nmx ?_
              obtain ⟨l_35, h52, hh⟩ := bind_ex hh
              obtain ⟨h52a, h52c⟩ := app_some h52
              have h52d := app_map (f := api_Node.pv) h52c
              have h52e := app_len h52c
              try simp only [List.length_cons, List.length_nil, Nat.zero_add, Nat.reduceAdd] at h52a h52e
              try simp only [h52e] at h52a
              try simp only [List.map_cons, List.map_nil, List.nil_append, List.append_nil, List.cons_append, List.singleton_append, rune1, api_Attr.pv_eq, api_Node.pv_eq, codec_reader.pv_eq, diptychlaw2_Cell.pv_eq, pvL] at h52d
              refine awp_region fun K kk hK => ?_
              simp only [go_sem, h52a, h52d, h52e, hl0a, hl0b, hl0d, hl0w]
              (repeat refine sd ?_)
              refine hK _ _ fun nx => ?_; clear hK K; try clear kk
              refine nmx ?_
              refine awp_region fun K kk hK => ?_
              simp only [go_sem, hl0a, hl0b, hl0d, hl0w]
              refine hK _ _ fun nx => ?_; clear hK K; try clear kk
              refine nmx ?_
              have ih' := ih (pre ++ [y_26]) (i_13 + 1) _ (by rw [hsplit]; simp) (by simp [hidx]) hh nx
              refine cut_id ?_
              first | exact ih' _ | (simp only [api_Attr.pv_eq, api_Node.pv_eq, codec_reader.pv_eq, diptychlaw2_Cell.pv_eq, pvL, List.map_cons, List.map_nil, List.map_append, rune1, h52e] at ih' ⊢; exact ih' _) | (simp only [api_Attr.pv_eq, api_Node.pv_eq, codec_reader.pv_eq, diptychlaw2_Cell.pv_eq, pvL, List.map_cons, List.map_nil, List.map_append, rune1, h52e, h37, h40, h41] at ih' ⊢; exact ih' _)
          · rw [if_neg h40] at hh
            replace h40 := Bool.eq_false_iff.mpr h40
            refine awp_first fun K kk hK => ?_
            simp only [go_sem, h40, h40, hl0a, hl0b, hl0d, hl0w]
            (repeat refine sd ?_)
            refine hK _ _ fun nx => ?_; clear hK K; try clear kk
            refine awp_false rfl ?_
            refine awp_skip ?_; refine nmx ?_
            obtain ⟨l_36, h53, hh⟩ := bind_ex hh
            obtain ⟨h53a, h53c⟩ := app_some h53
            have h53d := app_map (f := api_Node.pv) h53c
            have h53e := app_len h53c
            try simp only [List.length_cons, List.length_nil, Nat.zero_add, Nat.reduceAdd] at h53a h53e
            try simp only [h53e] at h53a
            try simp only [List.map_cons, List.map_nil, List.nil_append, List.append_nil, List.cons_append, List.singleton_append, rune1, api_Attr.pv_eq, api_Node.pv_eq, codec_reader.pv_eq, diptychlaw2_Cell.pv_eq, pvL] at h53d
            refine awp_region fun K kk hK => ?_
            simp only [go_sem, h53a, h53d, h53e, hl0a, hl0b, hl0d, hl0w]
            (repeat refine sd ?_)
            refine hK _ _ fun nx => ?_; clear hK K; try clear kk
            refine nmx ?_
            refine awp_region fun K kk hK => ?_
            simp only [go_sem, hl0a, hl0b, hl0d, hl0w]
            refine hK _ _ fun nx => ?_; clear hK K; try clear kk
            refine nmx ?_
            have ih' := ih (pre ++ [y_26]) (i_13 + 1) _ (by rw [hsplit]; simp) (by simp [hidx]) hh nx
            refine cut_id ?_
            first | exact ih' _ | (simp only [api_Attr.pv_eq, api_Node.pv_eq, codec_reader.pv_eq, diptychlaw2_Cell.pv_eq, pvL, List.map_cons, List.map_nil, List.map_append, rune1, h53e] at ih' ⊢; exact ih' _) | (simp only [api_Attr.pv_eq, api_Node.pv_eq, codec_reader.pv_eq, diptychlaw2_Cell.pv_eq, pvL, List.map_cons, List.map_nil, List.map_append, rune1, h53e, h37, h40] at ih' ⊢; exact ih' _)
        · intro i s h
          obtain ⟨rfl, rfl, nx, g3, g5, rfl⟩ := h
          try dsimp only at hh
          refine nmx ?_
          refine awp_region fun K kk hK => ?_
          simp only [go_sem, hl0a, hl0b, hl0d, hl0w]
          refine hK _ _ fun nx => ?_; clear hK K; try clear kk
          refine nmx ?_
          have ih' := ih (pre ++ [y_26]) (i_13 + 1) _ (by rw [hsplit]; simp) (by simp [hidx]) hh nx
          refine cut_id ?_
          first | exact ih' _ | (simp only [api_Attr.pv_eq, api_Node.pv_eq, codec_reader.pv_eq, diptychlaw2_Cell.pv_eq, pvL, List.map_cons, List.map_nil, List.map_append, rune1] at ih' ⊢; exact ih' _) | (simp only [api_Attr.pv_eq, api_Node.pv_eq, codec_reader.pv_eq, diptychlaw2_Cell.pv_eq, pvL, List.map_cons, List.map_nil, List.map_append, rune1, h37] at ih' ⊢; exact ih' _)
        · intro s h; exact h.elim
    exact key l_1 [] _ _ rfl rfl f0 _ _
  · rintro s ⟨t, hless, out_39, rfl, i_37, v_38, nx, g3, rfl⟩
    try dsimp only at hh
    refine nmy ?_
    first | (refine cut_less hless ?_; try refine cut_awp ?_) | refine frag_less hless ?_ | refine body_less hless ?_
    refine awp_first fun K kk hK => ?_
    simp only [go_sem]
    refine hK _ _ fun nx => ?_; clear hK K; try clear kk
    refine awp_ret ?_; refine nmx ?_
    obtain hR := Option.some.inj hh
    subst hR
    exact ret_own (by rfl) (by rfl) (by rfl) (by simp only [List.length_map, List.length_cons, List.length_nil, Nat.zero_add, Nat.reduceAdd]) (by first | rfl | (simp only [api_Attr.pv_eq, api_Node.pv_eq, codec_reader.pv_eq, diptychlaw2_Cell.pv_eq, pvL, List.map_cons, List.map_nil, List.map_append, rune1]; done) | (simp only [api_Attr.pv_eq, api_Node.pv_eq, codec_reader.pv_eq, diptychlaw2_Cell.pv_eq, pvL, List.map_cons, List.map_nil, List.map_append, rune1]; rfl))
  · intro i s h; exact h.elim
  · intro s h; exact h.elim
theorem diptychlaw2_made_ok (l_1 : (List diptychlaw2_Cell)) (R : (List api_Node)) (hh : diptychlaw2_made l_1 = some R) : PC Tryd.prog 40 [.list 3 (l_1.map diptychlaw2_Cell.pv)] (.list 5 (R.map api_Node.pv)) := by
  rw [diptychlaw2_made] at hh
  refine start_diptychlaw2_made rfl ?_
  refine awp_first fun K kk hK => ?_
  simp only [go_sem]
  refine hK _ _ fun nx => ?_; clear hK K; try clear kk
  refine awp_first fun K kk hK => ?_
  simp only [go_sem]
  refine hK _ _ fun nx => ?_; clear hK K; try clear kk
  refine awp_first fun K kk hK => ?_
  simp only [go_sem]
  refine hK _ _ fun nx => ?_; clear hK K; try clear kk
  refine awp_first fun K kk hK => ?_
  simp only [go_sem]
  refine hK _ _ fun nx => ?_; clear hK K; try clear kk
  refine awp_seq ?_
  refine awp_first fun K kk hK => ?_
  simp only [go_sem]
  refine hK _ _ fun nx => ?_; clear hK K; try clear kk
  obtain ⟨e0, f0, hh⟩ := bind_ex hh
  obtain ⟨hlen0, f0⟩ := chk_some f0
  refine awp_fragE (CutTo (fun s => ∃ out_78, out_78 = e0 ∧ ∃ (i_76 : Int) (v_77 : Bool) (nx : Nat) (g3 : Nat) (g4 : Nat) (g5 : Nat), s = ⟨[(0, .list 3 (l_1.map diptychlaw2_Cell.pv)), (3, .row 3 g3 [([97] : Str), ([98, 99] : Str), ([195, 169] : Str), ([120, 32, 121] : Str), ([230, 151, 165, 230, 156, 172] : Str)].length), (4, .row 4 g4 [([112, 97, 114, 97] : Str), ([105, 116, 101, 109] : Str), ([108, 105, 115, 116] : Str), ([110, 111, 116, 101] : Str)].length), (5, .row 5 g5 out_78.length), (6, .int .i64 i_76), (19, .bool v_77)], [(3, g3, .row false 1 ([([97] : Str), ([98, 99] : Str), ([195, 169] : Str), ([120, 32, 121] : Str), ([230, 151, 165, 230, 156, 172] : Str)].map PV.str)), (4, g4, .row false 1 ([([112, 97, 114, 97] : Str), ([105, 116, 101, 109] : Str), ([108, 105, 115, 116] : Str), ([110, 111, 116, 101] : Str)].map PV.str)), (5, g5, .row false 5 (out_78.map api_Node.pv))], nx⟩))
    (fun i s => False)
    (fun s => False) ?_ ?_ ?_ ?_
  · refine awp_block ?_
    refine awp_loopJ fun I hI => ?_
    have key : ∀ (suf pre : List diptychlaw2_Cell) (i_26 : Int) (out_27 : (List api_Node)), l_1 = pre ++ suf → i_26 = (pre.length : Int) → diptychlaw2_made_l0 suf i_26 out_27 = some e0 → ∀ (nx : Nat) (g3 : Nat) (g4 : Nat) (g5 : Nat), I ⟨[(0, .list 3 (l_1.map diptychlaw2_Cell.pv)), (3, .row 3 g3 [([97] : Str), ([98, 99] : Str), ([195, 169] : Str), ([120, 32, 121] : Str), ([230, 151, 165, 230, 156, 172] : Str)].length), (4, .row 4 g4 [([112, 97, 114, 97] : Str), ([105, 116, 101, 109] : Str), ([108, 105, 115, 116] : Str), ([110, 111, 116, 101] : Str)].length), (5, .row 5 g5 out_27.length), (6, .int .i64 i_26)], [(3, g3, .row false 1 ([([97] : Str), ([98, 99] : Str), ([195, 169] : Str), ([120, 32, 121] : Str), ([230, 151, 165, 230, 156, 172] : Str)].map PV.str)), (4, g4, .row false 1 ([([112, 97, 114, 97] : Str), ([105, 116, 101, 109] : Str), ([108, 105, 115, 116] : Str), ([110, 111, 116, 101] : Str)].map PV.str)), (5, g5, .row false 5 (out_27.map api_Node.pv))], nx⟩ := by
      intro suf
      induction suf with
      | nil =>
        intro pre i_26 out_27 hsplit hidx hh nx g3 g4 g5
        rw [diptychlaw2_made_l0] at hh
        refine hI _ ?_
        have h65 := walk_nil hsplit hidx
        refine awp_seq ?_
        refine awp_first fun K kk hK => ?_
        simp only [go_sem, h65, of_decide_eq_false h65, h65, of_decide_eq_false h65]
        (repeat refine sd ?_)
        refine hK _ _ fun nx => ?_; clear hK K; try clear kk
        refine awp_false rfl ?_
        refine awp_exit ?_; refine nmx ?_
        refine fragN ?_
        refine cut_id ?_
        refine ⟨_, (Option.some.inj hh), ?_⟩
        first | exact ⟨_, _, _, _, _, _, rfl⟩ | (simp only [api_Attr.pv_eq, api_Node.pv_eq, codec_reader.pv_eq, diptychlaw2_Cell.pv_eq, pvL, List.map_cons, List.map_nil, List.map_append, rune1]; exact ⟨_, _, _, _, _, _, rfl⟩) | (simp only [api_Attr.pv_eq, api_Node.pv_eq, codec_reader.pv_eq, diptychlaw2_Cell.pv_eq, pvL, List.map_cons, List.map_nil, List.map_append, rune1, h65]; exact ⟨_, _, _, _, _, _, rfl⟩)
      | cons y_52 suf ih =>
        intro pre i_26 out_27 hsplit hidx hh nx g3 g4 g5
        rw [diptychlaw2_made_l0] at hh
        refine hI _ ?_
        obtain ⟨hl0a, hl0b, hl0d, hl0w, h65⟩ := walk_cons (f := diptychlaw2_Cell.pv) hsplit hidx hlen0
        refine awp_seq ?_
        refine awp_first fun K kk hK => ?_
        simp only [go_sem, h65, of_decide_eq_true h65, h65, of_decide_eq_true h65, hl0a, hl0b, hl0d, hl0w]
        (repeat refine sd ?_)
        refine hK _ _ fun nx => ?_; clear hK K; try clear kk
        by_cases h66 : (decide (i_26 < (19 : Int))) = true
        · rw [if_pos h66] at hh
          refine awp_true (by first | exact congrArg PV.bool h66 | rfl) ?_
          refine awp_skip ?_; refine nmx ?_
          refine awp_seq ?_
          refine awp_block ?_
          refine awp_first fun K kk hK => ?_
          simp only [go_sem, hl0a, hl0b, hl0d, hl0w]
          refine hK _ _ fun nx => ?_; clear hK K; try clear kk
          obtain ⟨pick_53, h67, hh⟩ := bind_ex hh
          obtain ⟨x_54, h68, hh⟩ := bind_ex hh
          obtain ⟨h68a, h68b, h68c⟩ := rd_some h68
          have h68d := rd_get (f := PV.str) h68c
          have h68f := rd_more (f := PV.str) h68c
          try simp only [Int.toNat_natCast, Int.reduceToNat] at h68d h68f
          simp only [List.length_cons, List.length_nil, List.map_cons, List.map_nil, Nat.zero_add, Nat.reduceAdd, reduceCtorEq, not_false_eq_true, and_true, api_Attr.pv_eq, api_Node.pv_eq, codec_reader.pv_eq, diptychlaw2_Cell.pv_eq, pvL] at h68b h68d h68f
          refine awp_first fun K kk hK => ?_
          simp only [go_sem, h68a, h68b, h68d, h68f, hl0a, hl0b, hl0d, hl0w]
          (repeat refine sd ?_)
          refine step_call2 (diptychlaw2_pick_ok _ _ _ h67) (by (try simp only [go_sem, h68a, h68b, h68d, h68f, hl0a, hl0b, hl0d, hl0w]) <;> exact wkl) (by rfl) (by rfl) ?_
          simp only [go_sem, h68a, h68b, h68d, h68f, hl0a, hl0b, hl0d, hl0w]
          (repeat refine sd ?_)
          refine hK _ _ fun nx => ?_; clear hK K; try clear kk
          refine awp_seq ?_
          obtain ⟨e9, f9, hh⟩ := bind_ex hh
          refine awp_frag (fun s => ∃ n_58, n_58 = e9 ∧ ∃ (nx : Nat) (g3 : Nat) (g4 : Nat) (g5 : Nat) (g7 : Nat) (g8 : Nat), s = ⟨[(0, .list 3 (l_1.map diptychlaw2_Cell.pv)), (3, .row 3 g3 [([97] : Str), ([98, 99] : Str), ([195, 169] : Str), ([120, 32, 121] : Str), ([230, 151, 165, 230, 156, 172] : Str)].length), (4, .row 4 g4 [([112, 97, 114, 97] : Str), ([105, 116, 101, 109] : Str), ([108, 105, 115, 116] : Str), ([110, 111, 116, 101] : Str)].length), (5, .row 5 g5 out_27.length), (6, .int .i64 i_26), (7, .box 7 g7 0), (8, .box 8 g8 0)], [(3, g3, .row false 1 ([([97] : Str), ([98, 99] : Str), ([195, 169] : Str), ([120, 32, 121] : Str), ([230, 151, 165, 230, 156, 172] : Str)].map PV.str)), (4, g4, .row false 1 ([([112, 97, 114, 97] : Str), ([105, 116, 101, 109] : Str), ([108, 105, 115, 116] : Str), ([110, 111, 116, 101] : Str)].map PV.str)), (5, g5, .row false 5 (out_27.map api_Node.pv)), (7, g7, .var 84 [.int .i64 y_52.Op, .int .i64 y_52.A, .int .i64 y_52.B]), (8, g8, .var 26 [.str x_54, .str ([] : Str), .list 1 ([].map PV.str), .list 2 (n_58.map api_Attr.pv), .list 5 ([].map api_Node.pv)])], nx⟩)
            (fun i s => False)
            (fun s => False) ?_ ?_ ?_ ?_
          · have hh := f9
            obtain ⟨pick_55, h69, hh⟩ := bind_ex hh
            refine awp_first fun K kk hK => ?_
            simp only [go_sem, hl0a, hl0b, hl0d, hl0w]
            refine step_call2 (diptychlaw2_pick_ok _ _ _ h69) (by (try simp only [go_sem, hl0a, hl0b, hl0d, hl0w]) <;> exact wkl) (by rfl) (by rfl) ?_
            simp only [go_sem, hl0a, hl0b, hl0d, hl0w]
            refine hK _ _ fun nx => ?_; clear hK K; try clear kk
            by_cases h70 : (pick_55 == (1 : Int)) = true
            · rw [if_pos h70] at hh
              refine awp_true (by first | exact congrArg PV.bool h70 | rfl) ?_
              obtain ⟨pick_56, h71, hh⟩ := bind_ex hh
              obtain ⟨x_57, h72, hh⟩ := bind_ex hh
              obtain ⟨h72a, h72b, h72c⟩ := rd_some h72
              have h72d := rd_get (f := PV.str) h72c
              have h72f := rd_more (f := PV.str) h72c
              try simp only [Int.toNat_natCast, Int.reduceToNat] at h72d h72f
              simp only [List.length_cons, List.length_nil, List.map_cons, List.map_nil, Nat.zero_add, Nat.reduceAdd, reduceCtorEq, not_false_eq_true, and_true, api_Attr.pv_eq, api_Node.pv_eq, codec_reader.pv_eq, diptychlaw2_Cell.pv_eq, pvL] at h72b h72d h72f
              refine awp_region fun K kk hK => ?_
              simp only [go_sem, h72a, h72b, h72d, h72f, hl0a, hl0b, hl0d, hl0w]
              (repeat refine sd ?_)
              refine step_call2 (diptychlaw2_pick_ok _ _ _ h71) (by (try simp only [go_sem, h72a, h72b, h72d, h72f, hl0a, hl0b, hl0d, hl0w]) <;> exact wkl) (by rfl) (by rfl) ?_
              simp only [go_sem, h72a, h72b, h72d, h72f, hl0a, hl0b, hl0d, hl0w]
              (repeat refine sd ?_)
              refine hK _ _ fun nx => ?_; clear hK K; try clear kk
              refine nmx ?_
              refine fragN ?_
              refine cut_id ?_
              refine ⟨_, (Option.some.inj hh), ?_⟩
              first | exact ⟨_, _, _, _, _, _, rfl⟩ | (simp only [api_Attr.pv_eq, api_Node.pv_eq, codec_reader.pv_eq, diptychlaw2_Cell.pv_eq, pvL, List.map_cons, List.map_nil, List.map_append, rune1]; exact ⟨_, _, _, _, _, _, rfl⟩) | (simp only [api_Attr.pv_eq, api_Node.pv_eq, codec_reader.pv_eq, diptychlaw2_Cell.pv_eq, pvL, List.map_cons, List.map_nil, List.map_append, rune1, h65, h66, h70]; exact ⟨_, _, _, _, _, _, rfl⟩)
            · rw [if_neg h70] at hh
              replace h70 := Bool.eq_false_iff.mpr h70
              refine awp_false (by first | exact congrArg PV.bool h70 | rfl) ?_
              refine awp_skip ?_; refine nmx ?_
              refine fragN ?_
              refine cut_to (less_cut _ [0, 3, 4, 5, 6, 7, 8] [3, 4, 5, 7, 8]) ?_
              refine ⟨_, (Option.some.inj hh), ?_⟩
              first | exact ⟨_, _, _, _, _, _, rfl⟩ | (simp only [api_Attr.pv_eq, api_Node.pv_eq, codec_reader.pv_eq, diptychlaw2_Cell.pv_eq, pvL, List.map_cons, List.map_nil, List.map_append, rune1]; exact ⟨_, _, _, _, _, _, rfl⟩) | (simp only [api_Attr.pv_eq, api_Node.pv_eq, codec_reader.pv_eq, diptychlaw2_Cell.pv_eq, pvL, List.map_cons, List.map_nil, List.map_append, rune1, h65, h66, h70]; exact ⟨_, _, _, _, _, _, rfl⟩)
          · rintro s ⟨n_58, rfl, nx, g3, g4, g5, g7, g8, rfl⟩
            try dsimp only at hh
            refine awp_seq ?_
            obtain ⟨pick_59, h73, hh⟩ := bind_ex hh
            refine awp_first fun K kk hK => ?_
            simp only [go_sem, hl0a, hl0b, hl0d, hl0w]
            refine step_call2 (diptychlaw2_pick_ok _ _ _ h73) (by (try simp only [go_sem, hl0a, hl0b, hl0d, hl0w]) <;> exact wkl) (by rfl) (by rfl) ?_
            simp only [go_sem, hl0a, hl0b, hl0d, hl0w]
            refine hK _ _ fun nx => ?_; clear hK K; try clear kk
            refine awp_block ?_
            refine awp_seq ?_
            obtain ⟨e10, f10, hh⟩ := bind_ex hh
            refine awp_frag (fun s => ∃ v_60, v_60 = e10 ∧ ∃ (nx : Nat) (g3 : Nat) (g4 : Nat) (g5 : Nat) (g7 : Nat) (g8 : Nat), s = ⟨[(0, .list 3 (l_1.map diptychlaw2_Cell.pv)), (3, .row 3 g3 [([97] : Str), ([98, 99] : Str), ([195, 169] : Str), ([120, 32, 121] : Str), ([230, 151, 165, 230, 156, 172] : Str)].length), (4, .row 4 g4 [([112, 97, 114, 97] : Str), ([105, 116, 101, 109] : Str), ([108, 105, 115, 116] : Str), ([110, 111, 116, 101] : Str)].length), (5, .row 5 g5 out_27.length), (6, .int .i64 i_26), (7, .box 7 g7 0), (8, .box 8 g8 0), (49, .int .i64 pick_59), (50, .bool v_60)], [(3, g3, .row false 1 ([([97] : Str), ([98, 99] : Str), ([195, 169] : Str), ([120, 32, 121] : Str), ([230, 151, 165, 230, 156, 172] : Str)].map PV.str)), (4, g4, .row false 1 ([([112, 97, 114, 97] : Str), ([105, 116, 101, 109] : Str), ([108, 105, 115, 116] : Str), ([110, 111, 116, 101] : Str)].map PV.str)), (5, g5, .row false 5 (out_27.map api_Node.pv)), (7, g7, .var 84 [.int .i64 y_52.Op, .int .i64 y_52.A, .int .i64 y_52.B]), (8, g8, .var 26 [.str x_54, .str ([] : Str), .list 1 ([].map PV.str), .list 2 (n_58.map api_Attr.pv), .list 5 ([].map api_Node.pv)])], nx⟩)
              (fun i s => False)
              (fun s => False) ?_ ?_ ?_ ?_
            · have hh := f10
              refine awp_first fun K kk hK => ?_
              simp only [go_sem, hl0a, hl0b, hl0d, hl0w]
              refine hK _ _ fun nx => ?_; clear hK K; try clear kk
              by_cases h74 : (pick_59 == (0 : Int)) = true
              · rw [if_pos h74] at hh
                refine awp_true (by first | exact congrArg PV.bool h74 | rfl) ?_
                refine awp_skip ?_; refine nmx ?_
                refine fragN ?_
                refine cut_id ?_
                refine ⟨_, (Option.some.inj hh), ?_⟩
                first | exact ⟨_, _, _, _, _, _, rfl⟩ | (simp only [api_Attr.pv_eq, api_Node.pv_eq, codec_reader.pv_eq, diptychlaw2_Cell.pv_eq, pvL, List.map_cons, List.map_nil, List.map_append, rune1]; exact ⟨_, _, _, _, _, _, rfl⟩) | (simp only [api_Attr.pv_eq, api_Node.pv_eq, codec_reader.pv_eq, diptychlaw2_Cell.pv_eq, pvL, List.map_cons, List.map_nil, List.map_append, rune1, h65, h66, h74]; exact ⟨_, _, _, _, _, _, rfl⟩)
              · rw [if_neg h74] at hh
                replace h74 := Bool.eq_false_iff.mpr h74
                refine awp_false (by first | exact congrArg PV.bool h74 | rfl) ?_
                refine awp_first fun K kk hK => ?_
                simp only [go_sem, hl0a, hl0b, hl0d, hl0w]
                refine hK _ _ fun nx => ?_; clear hK K; try clear kk
                by_cases h75 : (pick_59 == (1 : Int)) = true
                · rw [if_pos h75] at hh
                  refine awp_true (by first | exact congrArg PV.bool h75 | rfl) ?_
                  refine awp_skip ?_; refine nmx ?_
                  refine fragN ?_
                  refine cut_id ?_
                  refine ⟨_, (Option.some.inj hh), ?_⟩
                  first | exact ⟨_, _, _, _, _, _, rfl⟩ | (simp only [api_Attr.pv_eq, api_Node.pv_eq, codec_reader.pv_eq, diptychlaw2_Cell.pv_eq, pvL, List.map_cons, List.map_nil, List.map_append, rune1]; exact ⟨_, _, _, _, _, _, rfl⟩) | (simp only [api_Attr.pv_eq, api_Node.pv_eq, codec_reader.pv_eq, diptychlaw2_Cell.pv_eq, pvL, List.map_cons, List.map_nil, List.map_append, rune1, h65, h66, h74, h75]; exact ⟨_, _, _, _, _, _, rfl⟩)
                · rw [if_neg h75] at hh
                  replace h75 := Bool.eq_false_iff.mpr h75
                  refine awp_false (by first | exact congrArg PV.bool h75 | rfl) ?_
                  refine awp_first fun K kk hK => ?_
                  simp only [go_sem, hl0a, hl0b, hl0d, hl0w]
                  refine hK _ _ fun nx => ?_; clear hK K; try clear kk
                  by_cases h76 : (pick_59 == (2 : Int)) = true
                  · rw [if_pos h76] at hh
                    refine awp_true (by first | exact congrArg PV.bool h76 | rfl) ?_
                    refine awp_skip ?_; refine nmx ?_
                    refine fragN ?_
                    refine cut_id ?_
                    refine ⟨_, (Option.some.inj hh), ?_⟩
                    first | exact ⟨_, _, _, _, _, _, rfl⟩ | (simp only [api_Attr.pv_eq, api_Node.pv_eq, codec_reader.pv_eq, diptychlaw2_Cell.pv_eq, pvL, List.map_cons, List.map_nil, List.map_append, rune1]; exact ⟨_, _, _, _, _, _, rfl⟩) | (simp only [api_Attr.pv_eq, api_Node.pv_eq, codec_reader.pv_eq, diptychlaw2_Cell.pv_eq, pvL, List.map_cons, List.map_nil, List.map_append, rune1, h65, h66, h74, h75, h76]; exact ⟨_, _, _, _, _, _, rfl⟩)
                  · rw [if_neg h76] at hh
                    replace h76 := Bool.eq_false_iff.mpr h76
                    refine awp_false (by first | exact congrArg PV.bool h76 | rfl) ?_
                    refine awp_region fun K kk hK => ?_
                    simp only [go_sem, hl0a, hl0b, hl0d, hl0w]
                    refine hK _ _ fun nx => ?_; clear hK K; try clear kk
                    refine nmx ?_
                    refine fragN ?_
                    refine cut_id ?_
                    refine ⟨_, (Option.some.inj hh), ?_⟩
                    first | exact ⟨_, _, _, _, _, _, rfl⟩ | (simp only [api_Attr.pv_eq, api_Node.pv_eq, codec_reader.pv_eq, diptychlaw2_Cell.pv_eq, pvL, List.map_cons, List.map_nil, List.map_append, rune1]; exact ⟨_, _, _, _, _, _, rfl⟩) | (simp only [api_Attr.pv_eq, api_Node.pv_eq, codec_reader.pv_eq, diptychlaw2_Cell.pv_eq, pvL, List.map_cons, List.map_nil, List.map_append, rune1, h65, h66, h74, h75, h76]; exact ⟨_, _, _, _, _, _, rfl⟩)
            · rintro s ⟨v_60, rfl, nx, g3, g4, g5, g7, g8, rfl⟩
              try dsimp only at hh
              by_cases h77 : (v_60) = true
              · rw [if_pos h77] at hh
                refine awp_true (by first | exact congrArg PV.bool h77 | rfl) ?_
                obtain ⟨pick_61, h78, hh⟩ := bind_ex hh
                obtain ⟨x_62, h79, hh⟩ := bind_ex hh
                obtain ⟨h79a, h79b, h79c⟩ := rd_some h79
                have h79d := rd_get (f := PV.str) h79c
                have h79f := rd_more (f := PV.str) h79c
                try simp only [Int.toNat_natCast, Int.reduceToNat] at h79d h79f
                simp only [List.length_cons, List.length_nil, List.map_cons, List.map_nil, Nat.zero_add, Nat.reduceAdd, reduceCtorEq, not_false_eq_true, and_true, api_Attr.pv_eq, api_Node.pv_eq, codec_reader.pv_eq, diptychlaw2_Cell.pv_eq, pvL] at h79b h79d h79f
                refine awp_first fun K kk hK => ?_
                simp only [go_sem, h79a, h79b, h79d, h79f, hl0a, hl0b, hl0d, hl0w]
                (repeat refine sd ?_)
                refine step_call2 (diptychlaw2_pick_ok _ _ _ h78) (by (try simp only [go_sem, h79a, h79b, h79d, h79f, hl0a, hl0b, hl0d, hl0w]) <;> exact wkl) (by rfl) (by rfl) ?_
                simp only [go_sem, h79a, h79b, h79d, h79f, hl0a, hl0b, hl0d, hl0w]
                (repeat refine sd ?_)
                refine hK _ _ fun nx => ?_; clear hK K; try clear kk
                refine awp_seq ?_
                obtain ⟨e11, f11, hh⟩ := bind_ex hh
                refine awp_frag (fun s => ∃ n_64, n_64 = e11 ∧ ∃ (nx : Nat) (g3 : Nat) (g4 : Nat) (g5 : Nat) (g7 : Nat) (g8 : Nat), s = ⟨[(0, .list 3 (l_1.map diptychlaw2_Cell.pv)), (3, .row 3 g3 [([97] : Str), ([98, 99] : Str), ([195, 169] : Str), ([120, 32, 121] : Str), ([230, 151, 165, 230, 156, 172] : Str)].length), (4, .row 4 g4 [([112, 97, 114, 97] : Str), ([105, 116, 101, 109] : Str), ([108, 105, 115, 116] : Str), ([110, 111, 116, 101] : Str)].length), (5, .row 5 g5 out_27.length), (6, .int .i64 i_26), (7, .box 7 g7 0), (8, .box 8 g8 0)], [(3, g3, .row false 1 ([([97] : Str), ([98, 99] : Str), ([195, 169] : Str), ([120, 32, 121] : Str), ([230, 151, 165, 230, 156, 172] : Str)].map PV.str)), (4, g4, .row false 1 ([([112, 97, 114, 97] : Str), ([105, 116, 101, 109] : Str), ([108, 105, 115, 116] : Str), ([110, 111, 116, 101] : Str)].map PV.str)), (5, g5, .row false 5 (out_27.map api_Node.pv)), (7, g7, .var 84 [.int .i64 y_52.Op, .int .i64 y_52.A, .int .i64 y_52.B]), (8, g8, .var 26 [.str ([116, 101, 120, 116] : Str), .str x_62, .list 1 (n_64.map PV.str), .list 2 ([].map api_Attr.pv), .list 5 ([].map api_Node.pv)])], nx⟩)
                  (fun i s => False)
                  (fun s => False) ?_ ?_ ?_ ?_
                · have hh := f11
                  obtain ⟨pick_63, h80, hh⟩ := bind_ex hh
                  refine awp_first fun K kk hK => ?_
                  simp only [go_sem, hl0a, hl0b, hl0d, hl0w]
                  refine step_call2 (diptychlaw2_pick_ok _ _ _ h80) (by (try simp only [go_sem, hl0a, hl0b, hl0d, hl0w]) <;> exact wkl) (by rfl) (by rfl) ?_
                  simp only [go_sem, hl0a, hl0b, hl0d, hl0w]
                  refine hK _ _ fun nx => ?_; clear hK K; try clear kk
                  by_cases h81 : (pick_63 == (1 : Int)) = true
                  · rw [if_pos h81] at hh
                    refine awp_true (by first | exact congrArg PV.bool h81 | rfl) ?_
                    refine awp_region fun K kk hK => ?_
                    simp only [go_sem, hl0a, hl0b, hl0d, hl0w]
                    refine hK _ _ fun nx => ?_; clear hK K; try clear kk
                    refine nmx ?_
                    refine fragN ?_
                    refine cut_id ?_
                    refine ⟨_, (Option.some.inj hh), ?_⟩
                    first | exact ⟨_, _, _, _, _, _, rfl⟩ | (simp only [api_Attr.pv_eq, api_Node.pv_eq, codec_reader.pv_eq, diptychlaw2_Cell.pv_eq, pvL, List.map_cons, List.map_nil, List.map_append, rune1]; exact ⟨_, _, _, _, _, _, rfl⟩) | (simp only [api_Attr.pv_eq, api_Node.pv_eq, codec_reader.pv_eq, diptychlaw2_Cell.pv_eq, pvL, List.map_cons, List.map_nil, List.map_append, rune1, h65, h66, h77, h81]; exact ⟨_, _, _, _, _, _, rfl⟩)
                  · rw [if_neg h81] at hh
                    replace h81 := Bool.eq_false_iff.mpr h81
                    refine awp_false (by first | exact congrArg PV.bool h81 | rfl) ?_
                    refine awp_skip ?_; refine nmx ?_
                    refine fragN ?_
                    refine cut_to (less_cut _ [0, 3, 4, 5, 6, 7, 8] [3, 4, 5, 7, 8]) ?_
                    refine ⟨_, (Option.some.inj hh), ?_⟩
                    first | exact ⟨_, _, _, _, _, _, rfl⟩ | (simp only [api_Attr.pv_eq, api_Node.pv_eq, codec_reader.pv_eq, diptychlaw2_Cell.pv_eq, pvL, List.map_cons, List.map_nil, List.map_append, rune1]; exact ⟨_, _, _, _, _, _, rfl⟩) | (simp only [api_Attr.pv_eq, api_Node.pv_eq, codec_reader.pv_eq, diptychlaw2_Cell.pv_eq, pvL, List.map_cons, List.map_nil, List.map_append, rune1, h65, h66, h77, h81]; exact ⟨_, _, _, _, _, _, rfl⟩)
                · rintro s ⟨n_64, rfl, nx, g3, g4, g5, g7, g8, rfl⟩
                  try dsimp only at hh
                  obtain ⟨pick_65, h82, hh⟩ := bind_ex hh
                  refine awp_first fun K kk hK => ?_
                  simp only [go_sem, hl0a, hl0b, hl0d, hl0w]
                  refine step_call2 (diptychlaw2_pick_ok _ _ _ h82) (by (try simp only [go_sem, hl0a, hl0b, hl0d, hl0w]) <;> exact wkl) (by rfl) (by rfl) ?_
                  simp only [go_sem, hl0a, hl0b, hl0d, hl0w]
                  refine hK _ _ fun nx => ?_; clear hK K; try clear kk
                  by_cases h83 : (pick_65 == (2 : Int)) = true
                  · rw [if_pos h83] at hh
                    refine awp_true (by first | exact congrArg PV.bool h83 | rfl) ?_
                    refine awp_region fun K kk hK => ?_
                    simp only [go_sem, hl0a, hl0b, hl0d, hl0w]
                    refine hK _ _ fun nx => ?_; clear hK K; try clear kk
                    refine nmx ?_
                    obtain ⟨l_66, h84, hh⟩ := bind_ex hh
                    obtain ⟨h84a, h84c⟩ := app_some h84
                    have h84d := app_map (f := api_Node.pv) h84c
                    have h84e := app_len h84c
                    try simp only [List.length_cons, List.length_nil, Nat.zero_add, Nat.reduceAdd] at h84a h84e
                    try simp only [h84e] at h84a
                    try simp only [List.map_cons, List.map_nil, List.nil_append, List.append_nil, List.cons_append, List.singleton_append, rune1, api_Attr.pv_eq, api_Node.pv_eq, codec_reader.pv_eq, diptychlaw2_Cell.pv_eq, pvL] at h84d
                    refine awp_region fun K kk hK => ?_
                    simp only [go_sem, h84a, h84d, h84e, hl0a, hl0b, hl0d, hl0w]
                    (repeat refine sd ?_)
                    refine hK _ _ fun nx => ?_; clear hK K; try clear kk
                    refine nmx ?_
                    refine awp_region fun K kk hK => ?_
                    simp only [go_sem, hl0a, hl0b, hl0d, hl0w]
                    refine hK _ _ fun nx => ?_; clear hK K; try clear kk
                    refine nmx ?_
                    have ih' := ih (pre ++ [y_52]) (i_26 + 1) _ (by rw [hsplit]; simp) (by simp [hidx]) hh nx
                    refine cut_id ?_
                    first | exact ih' _ _ _ | (simp only [api_Attr.pv_eq, api_Node.pv_eq, codec_reader.pv_eq, diptychlaw2_Cell.pv_eq, pvL, List.map_cons, List.map_nil, List.map_append, rune1, h84e] at ih' ⊢; exact ih' _ _ _) | (simp only [api_Attr.pv_eq, api_Node.pv_eq, codec_reader.pv_eq, diptychlaw2_Cell.pv_eq, pvL, List.map_cons, List.map_nil, List.map_append, rune1, h84e, h65, h66, h77, h83] at ih' ⊢; exact ih' _ _ _)
                  · rw [if_neg h83] at hh
                    replace h83 := Bool.eq_false_iff.mpr h83
                    refine awp_false (by first | exact congrArg PV.bool h83 | rfl) ?_
                    refine awp_skip ?_; refine nmx ?_
                    obtain ⟨l_67, h85, hh⟩ := bind_ex hh
                    obtain ⟨h85a, h85c⟩ := app_some h85
                    have h85d := app_map (f := api_Node.pv) h85c
                    have h85e := app_len h85c
                    try simp only [List.length_cons, List.length_nil, Nat.zero_add, Nat.reduceAdd] at h85a h85e
                    try simp only [h85e] at h85a
                    try simp only [List.map_cons, List.map_nil, List.nil_append, List.append_nil, List.cons_append, List.singleton_append, rune1, api_Attr.pv_eq, api_Node.pv_eq, codec_reader.pv_eq, diptychlaw2_Cell.pv_eq, pvL] at h85d
                    refine awp_region fun K kk hK => ?_
                    simp only [go_sem, h85a, h85d, h85e, hl0a, hl0b, hl0d, hl0w]
                    (repeat refine sd ?_)
                    refine hK _ _ fun nx => ?_; clear hK K; try clear kk
                    refine nmx ?_
                    refine awp_region fun K kk hK => ?_
                    simp only [go_sem, hl0a, hl0b, hl0d, hl0w]
                    refine hK _ _ fun nx => ?_; clear hK K; try clear kk
                    refine nmx ?_
                    have ih' := ih (pre ++ [y_52]) (i_26 + 1) _ (by rw [hsplit]; simp) (by simp [hidx]) hh nx
                    refine cut_id ?_
                    first | exact ih' _ _ _ | (simp only [api_Attr.pv_eq, api_Node.pv_eq, codec_reader.pv_eq, diptychlaw2_Cell.pv_eq, pvL, List.map_cons, List.map_nil, List.map_append, rune1, h85e] at ih' ⊢; exact ih' _ _ _) | (simp only [api_Attr.pv_eq, api_Node.pv_eq, codec_reader.pv_eq, diptychlaw2_Cell.pv_eq, pvL, List.map_cons, List.map_nil, List.map_append, rune1, h85e, h65, h66, h77, h83] at ih' ⊢; exact ih' _ _ _)
                · intro i s h; exact h.elim
                · intro s h; exact h.elim
              · rw [if_neg h77] at hh
                replace h77 := Bool.eq_false_iff.mpr h77
                refine awp_false (by first | exact congrArg PV.bool h77 | rfl) ?_
                refine awp_seq ?_
                obtain ⟨e12, f12, hh⟩ := bind_ex hh
                refine awp_frag (fun s => ∃ v_68, v_68 = e12 ∧ ∃ (nx : Nat) (g3 : Nat) (g4 : Nat) (g5 : Nat) (g7 : Nat) (g8 : Nat), s = ⟨[(0, .list 3 (l_1.map diptychlaw2_Cell.pv)), (3, .row 3 g3 [([97] : Str), ([98, 99] : Str), ([195, 169] : Str), ([120, 32, 121] : Str), ([230, 151, 165, 230, 156, 172] : Str)].length), (4, .row 4 g4 [([112, 97, 114, 97] : Str), ([105, 116, 101, 109] : Str), ([108, 105, 115, 116] : Str), ([110, 111, 116, 101] : Str)].length), (5, .row 5 g5 out_27.length), (6, .int .i64 i_26), (7, .box 7 g7 0), (8, .box 8 g8 0), (74, .bool v_68)], [(3, g3, .row false 1 ([([97] : Str), ([98, 99] : Str), ([195, 169] : Str), ([120, 32, 121] : Str), ([230, 151, 165, 230, 156, 172] : Str)].map PV.str)), (4, g4, .row false 1 ([([112, 97, 114, 97] : Str), ([105, 116, 101, 109] : Str), ([108, 105, 115, 116] : Str), ([110, 111, 116, 101] : Str)].map PV.str)), (5, g5, .row false 5 (out_27.map api_Node.pv)), (7, g7, .var 84 [.int .i64 y_52.Op, .int .i64 y_52.A, .int .i64 y_52.B]), (8, g8, .var 26 [.str x_54, .str ([] : Str), .list 1 ([].map PV.str), .list 2 (n_58.map api_Attr.pv), .list 5 ([].map api_Node.pv)])], nx⟩)
                  (fun i s => False)
                  (fun s => False) ?_ ?_ ?_ ?_
                · have hh := f12
                  refine awp_first fun K kk hK => ?_
                  simp only [go_sem, hl0a, hl0b, hl0d, hl0w]
                  refine hK _ _ fun nx => ?_; clear hK K; try clear kk
                  by_cases h86 : (pick_59 == (4 : Int)) = true
                  · rw [if_pos h86] at hh
                    refine awp_true (by first | exact congrArg PV.bool h86 | rfl) ?_
                    refine awp_skip ?_; refine nmx ?_
                    refine fragN ?_
                    refine cut_to (less_cut _ [0, 3, 4, 5, 6, 7, 8, 74] [3, 4, 5, 7, 8]) ?_
                    refine ⟨_, (Option.some.inj hh), ?_⟩
                    first | exact ⟨_, _, _, _, _, _, rfl⟩ | (simp only [api_Attr.pv_eq, api_Node.pv_eq, codec_reader.pv_eq, diptychlaw2_Cell.pv_eq, pvL, List.map_cons, List.map_nil, List.map_append, rune1]; exact ⟨_, _, _, _, _, _, rfl⟩) | (simp only [api_Attr.pv_eq, api_Node.pv_eq, codec_reader.pv_eq, diptychlaw2_Cell.pv_eq, pvL, List.map_cons, List.map_nil, List.map_append, rune1, h65, h66, h77, h86]; exact ⟨_, _, _, _, _, _, rfl⟩)
                  · rw [if_neg h86] at hh
                    replace h86 := Bool.eq_false_iff.mpr h86
                    refine awp_false (by first | exact congrArg PV.bool h86 | rfl) ?_
                    refine awp_first fun K kk hK => ?_
                    simp only [go_sem, hl0a, hl0b, hl0d, hl0w]
                    refine hK _ _ fun nx => ?_; clear hK K; try clear kk
                    by_cases h87 : (pick_59 == (5 : Int)) = true
                    · rw [if_pos h87] at hh
                      refine awp_true (by first | exact congrArg PV.bool h87 | rfl) ?_
                      refine awp_skip ?_; refine nmx ?_
                      refine fragN ?_
                      refine cut_to (less_cut _ [0, 3, 4, 5, 6, 7, 8, 74] [3, 4, 5, 7, 8]) ?_
                      refine ⟨_, (Option.some.inj hh), ?_⟩
                      first | exact ⟨_, _, _, _, _, _, rfl⟩ | (simp only [api_Attr.pv_eq, api_Node.pv_eq, codec_reader.pv_eq, diptychlaw2_Cell.pv_eq, pvL, List.map_cons, List.map_nil, List.map_append, rune1]; exact ⟨_, _, _, _, _, _, rfl⟩) | (simp only [api_Attr.pv_eq, api_Node.pv_eq, codec_reader.pv_eq, diptychlaw2_Cell.pv_eq, pvL, List.map_cons, List.map_nil, List.map_append, rune1, h65, h66, h77, h86, h87]; exact ⟨_, _, _, _, _, _, rfl⟩)
                    · rw [if_neg h87] at hh
                      replace h87 := Bool.eq_false_iff.mpr h87
                      refine awp_false (by first | exact congrArg PV.bool h87 | rfl) ?_
                      refine awp_region fun K kk hK => ?_
                      simp only [go_sem, hl0a, hl0b, hl0d, hl0w]
                      refine hK _ _ fun nx => ?_; clear hK K; try clear kk
                      refine nmx ?_
                      refine fragN ?_
                      refine cut_id ?_
                      refine ⟨_, (Option.some.inj hh), ?_⟩
                      first | exact ⟨_, _, _, _, _, _, rfl⟩ | (simp only [api_Attr.pv_eq, api_Node.pv_eq, codec_reader.pv_eq, diptychlaw2_Cell.pv_eq, pvL, List.map_cons, List.map_nil, List.map_append, rune1]; exact ⟨_, _, _, _, _, _, rfl⟩) | (simp only [api_Attr.pv_eq, api_Node.pv_eq, codec_reader.pv_eq, diptychlaw2_Cell.pv_eq, pvL, List.map_cons, List.map_nil, List.map_append, rune1, h65, h66, h77, h86, h87]; exact ⟨_, _, _, _, _, _, rfl⟩)
                · rintro s ⟨v_68, rfl, nx, g3, g4, g5, g7, g8, rfl⟩
                  try dsimp only at hh
                  by_cases h88 : (v_68) = true
                  · rw [if_pos h88] at hh
                    refine awp_true (by first | exact congrArg PV.bool h88 | rfl) ?_
                    obtain ⟨pick_69, h89, hh⟩ := bind_ex hh
                    refine awp_first fun K kk hK => ?_
                    simp only [go_sem, hl0a, hl0b, hl0d, hl0w]
                    refine step_call2 (diptychlaw2_pick_ok _ _ _ h89) (by (try simp only [go_sem, hl0a, hl0b, hl0d, hl0w]) <;> exact wkl) (by rfl) (by rfl) ?_
                    simp only [go_sem, hl0a, hl0b, hl0d, hl0w]
                    refine hK _ _ fun nx => ?_; clear hK K; try clear kk
                    obtain ⟨s_70, h90, hh⟩ := bind_ex hh
                    obtain ⟨h90a, h90c⟩ := sl_some h90
                    have h90g := sl_le h90a
                    have h90d := sl_map1 (f := api_Node.pv) h90c
                    try simp only [Int.toNat_natCast, Int.reduceToNat, List.map_cons, List.map_nil, api_Attr.pv_eq, api_Node.pv_eq, codec_reader.pv_eq, diptychlaw2_Cell.pv_eq, pvL] at h90d
                    obtain ⟨join_71, h91, hh⟩ := bind_ex hh
                    refine awp_first fun K kk hK => ?_
                    simp only [go_sem, h90a.1, h90a.2.1, h90a.2.2, h90d, h90g, hl0a, hl0b, hl0d, hl0w]
                    (repeat refine sd ?_)
                    refine step_call2 (diptychref1_Join_ok _ _ h91).list (by (try simp only [go_sem, h90a.1, h90a.2.1, h90a.2.2, h90d, h90g, hl0a, hl0b, hl0d, hl0w]) <;> exact wkl) (by rfl) (by rfl) ?_
                    simp only [go_sem, h90a.1, h90a.2.1, h90a.2.2, h90d, h90g, hl0a, hl0b, hl0d, hl0w]
                    (repeat refine sd ?_)
                    refine hK _ _ fun nx => ?_; clear hK K; try clear kk
                    obtain ⟨s_72, h92, hh⟩ := bind_ex hh
                    obtain ⟨h92a, h92c⟩ := sl_some h92
                    have h92g := sl_le h92a
                    have h92d := sl_map0 (f := api_Node.pv) h92c
                    try simp only [Int.toNat_natCast, Int.reduceToNat, List.map_cons, List.map_nil, api_Attr.pv_eq, api_Node.pv_eq, codec_reader.pv_eq, diptychlaw2_Cell.pv_eq, pvL] at h92d
                    obtain ⟨l_73, h93, hh⟩ := bind_ex hh
                    obtain ⟨h93a, h93c⟩ := app_some h93
                    have h93d := app_map (f := api_Node.pv) h93c
                    have h93e := app_len h93c
                    try simp only [List.length_cons, List.length_nil, Nat.zero_add, Nat.reduceAdd] at h93a h93e
                    try simp only [h93e] at h93a
                    try simp only [List.map_cons, List.map_nil, List.nil_append, List.append_nil, List.cons_append, List.singleton_append, rune1, api_Attr.pv_eq, api_Node.pv_eq, codec_reader.pv_eq, diptychlaw2_Cell.pv_eq, pvL] at h93d
                    refine awp_region fun K kk hK => ?_
                    simp only [go_sem, h92a.1, h92a.2.1, h92a.2.2, h92d, h92g, h93a, h93d, h93e, hl0a, hl0b, hl0d, hl0w]
                    (repeat refine sd ?_)
                    refine hK _ _ fun nx => ?_; clear hK K; try clear kk
                    refine nmx ?_
                    obtain ⟨l_74, h94, hh⟩ := bind_ex hh
                    obtain ⟨h94a, h94c⟩ := app_some h94
                    have h94d := app_map (f := api_Node.pv) h94c
                    have h94e := app_len h94c
                    try simp only [List.length_cons, List.length_nil, Nat.zero_add, Nat.reduceAdd] at h94a h94e
                    try simp only [h94e] at h94a
                    try simp only [List.map_cons, List.map_nil, List.nil_append, List.append_nil, List.cons_append, List.singleton_append, rune1, api_Attr.pv_eq, api_Node.pv_eq, codec_reader.pv_eq, diptychlaw2_Cell.pv_eq, pvL] at h94d
                    refine awp_region fun K kk hK => ?_
                    simp only [go_sem, h94a, h94d, h94e, hl0a, hl0b, hl0d, hl0w]
                    (repeat refine sd ?_)
                    refine hK _ _ fun nx => ?_; clear hK K; try clear kk
                    refine nmx ?_
                    refine awp_region fun K kk hK => ?_
                    simp only [go_sem, hl0a, hl0b, hl0d, hl0w]
                    refine hK _ _ fun nx => ?_; clear hK K; try clear kk
                    refine nmx ?_
                    have ih' := ih (pre ++ [y_52]) (i_26 + 1) _ (by rw [hsplit]; simp) (by simp [hidx]) hh nx
                    refine cut_id ?_
                    first | exact ih' _ _ _ | (simp only [api_Attr.pv_eq, api_Node.pv_eq, codec_reader.pv_eq, diptychlaw2_Cell.pv_eq, pvL, List.map_cons, List.map_nil, List.map_append, rune1, h93e, h93d, h94e] at ih' ⊢; exact ih' _ _ _) | (simp only [api_Attr.pv_eq, api_Node.pv_eq, codec_reader.pv_eq, diptychlaw2_Cell.pv_eq, pvL, List.map_cons, List.map_nil, List.map_append, rune1, h93e, h93d, h94e, h65, h66, h77, h88] at ih' ⊢; exact ih' _ _ _)
                  · rw [if_neg h88] at hh
                    replace h88 := Bool.eq_false_iff.mpr h88
                    refine awp_false (by first | exact congrArg PV.bool h88 | rfl) ?_
                    refine awp_skip ?_; refine nmx ?_
                    obtain ⟨l_75, h95, hh⟩ := bind_ex hh
                    obtain ⟨h95a, h95c⟩ := app_some h95
                    have h95d := app_map (f := api_Node.pv) h95c
                    have h95e := app_len h95c
                    try simp only [List.length_cons, List.length_nil, Nat.zero_add, Nat.reduceAdd] at h95a h95e
                    try simp only [h95e] at h95a
                    try simp only [List.map_cons, List.map_nil, List.nil_append, List.append_nil, List.cons_append, List.singleton_append, rune1, api_Attr.pv_eq, api_Node.pv_eq, codec_reader.pv_eq, diptychlaw2_Cell.pv_eq, pvL] at h95d
                    refine awp_region fun K kk hK => ?_
                    simp only [go_sem, h95a, h95d, h95e, hl0a, hl0b, hl0d, hl0w]
                    (repeat refine sd ?_)
                    refine hK _ _ fun nx => ?_; clear hK K; try clear kk
                    refine nmx ?_
                    refine awp_region fun K kk hK => ?_
                    simp only [go_sem, hl0a, hl0b, hl0d, hl0w]
                    refine hK _ _ fun nx => ?_; clear hK K; try clear kk
                    refine nmx ?_
                    have ih' := ih (pre ++ [y_52]) (i_26 + 1) _ (by rw [hsplit]; simp) (by simp [hidx]) hh nx
                    refine cut_id ?_
                    first | exact ih' _ _ _ | (simp only [api_Attr.pv_eq, api_Node.pv_eq, codec_reader.pv_eq, diptychlaw2_Cell.pv_eq, pvL, List.map_cons, List.map_nil, List.map_append, rune1, h95e] at ih' ⊢; exact ih' _ _ _) | (simp only [api_Attr.pv_eq, api_Node.pv_eq, codec_reader.pv_eq, diptychlaw2_Cell.pv_eq, pvL, List.map_cons, List.map_nil, List.map_append, rune1, h95e, h65, h66, h77, h88] at ih' ⊢; exact ih' _ _ _)
                · intro i s h; exact h.elim
                · intro s h; exact h.elim
            · intro i s h; exact h.elim
            · intro s h; exact h.elim
          · intro i s h; exact h.elim
          · intro s h; exact h.elim
        · rw [if_neg h66] at hh
          replace h66 := Bool.eq_false_iff.mpr h66
          refine awp_false (by first | exact congrArg PV.bool h66 | rfl) ?_
          refine awp_exit ?_; refine nmx ?_
          refine fragN ?_
          refine cut_id ?_
          refine ⟨_, (Option.some.inj hh), ?_⟩
          first | exact ⟨_, _, _, _, _, _, rfl⟩ | (simp only [api_Attr.pv_eq, api_Node.pv_eq, codec_reader.pv_eq, diptychlaw2_Cell.pv_eq, pvL, List.map_cons, List.map_nil, List.map_append, rune1]; exact ⟨_, _, _, _, _, _, rfl⟩) | (simp only [api_Attr.pv_eq, api_Node.pv_eq, codec_reader.pv_eq, diptychlaw2_Cell.pv_eq, pvL, List.map_cons, List.map_nil, List.map_append, rune1, h65, h66]; exact ⟨_, _, _, _, _, _, rfl⟩)
    exact key l_1 [] _ _ rfl rfl f0 _ _ _ _
  · rintro s ⟨t, hless, out_78, rfl, i_76, v_77, nx, g3, g4, g5, rfl⟩
    try dsimp only at hh
    refine nmy ?_
    first | (refine cut_less hless ?_; try refine cut_awp ?_) | refine frag_less hless ?_ | refine body_less hless ?_
    obtain ⟨join_79, h96, hh⟩ := bind_ex hh
    refine awp_first fun K kk hK => ?_
    simp only [go_sem]
    refine step_call2 (diptychref1_Join_ok _ _ h96).list (by (try simp only [go_sem]) <;> exact wkl) (by rfl) (by rfl) ?_
    simp only [go_sem]
    refine hK _ _ fun nx => ?_; clear hK K; try clear kk
    refine awp_ret ?_; refine nmx ?_
    obtain hR := Option.some.inj hh
    subst hR
    exact ret_p2
  · intro i s h; exact h.elim
  · intro s h; exact h.elim
theorem diptychlaw2_doc_ok (l_1 : (List diptychlaw2_Cell)) (R : api_Node) (hh : diptychlaw2_doc l_1 = some R) : PC Tryd.prog 20 [.list 3 (l_1.map diptychlaw2_Cell.pv)] (.agg [.str R.Kind, .str R.Text, .list 1 (R.Marks.map PV.str), .list 2 (R.Attrs.map api_Attr.pv), .list 5 (R.Kids.map api_Node.pv)]) := by
  rw [diptychlaw2_doc] at hh
  refine start_diptychlaw2_doc rfl ?_
  refine awp_first fun K kk hK => ?_
  simp only [go_sem]
  refine hK _ _ fun nx => ?_; clear hK K; try clear kk
  obtain ⟨made_2, h1, hh⟩ := bind_ex hh
  refine awp_first fun K kk hK => ?_
  simp only [go_sem]
  refine step_call2 (diptychlaw2_made_ok _ _ h1) (by (try simp only [go_sem]) <;> exact wkl) (by rfl) (by rfl) ?_
  simp only [go_sem]
  refine hK _ _ fun nx => ?_; clear hK K; try clear kk
  refine awp_ret ?_; refine nmx ?_
  obtain hR := Option.some.inj hh
  subst hR
  exact ret_p2
theorem codec_ParseAll_ok (s_1 : Str) (R : ((List api_Node) × Int)) (hh : codec_ParseAll s_1 = some R) : PC Tryd.prog 24 [.str s_1] (.tup [.list 5 (R.1.map api_Node.pv), .int .i64 R.2]) := by
  rw [codec_ParseAll] at hh
  refine start_codec_ParseAll rfl ?_
  refine awp_first fun K kk hK => ?_
  simp only [go_sem]
  refine hK _ _ fun nx => ?_; clear hK K; try clear kk
  obtain ⟨h1, hh⟩ := chk_some hh
  obtain ⟨h2, hh⟩ := chk_some hh
  obtain ⟨⟨r_2, r_3⟩, h3, hh⟩ := bind_ex hh
  dsimp only at hh
  refine awp_first fun K kk hK => ?_
  simp only [go_sem, h1, h2]
  (repeat refine sd ?_)
  refine step_call2 (codec_Parse_ok _ _ h3) (by (try simp only [go_sem, h1, h2]) <;> exact wkl) (by rfl) (by rfl) ?_
  simp only [go_sem, h1, h2]
  (repeat refine sd ?_)
  refine hK _ _ fun nx => ?_; clear hK K; try clear kk
  refine awp_first fun K kk hK => ?_
  simp only [go_sem]
  refine hK _ _ fun nx => ?_; clear hK K; try clear kk
  refine awp_ret ?_; refine nmx ?_
  obtain hR := Option.some.inj hh
  subst hR
  exact ret_p2
theorem diptychref1_Same_grp : ∀ kr : Nat, (∀ (a_1 : api_Node) (b_2 : api_Node) (R : Bool), diptychref1_Same_k kr a_1 b_2 = some R → PC Tryd.prog 26 [.agg [.str a_1.Kind, .str a_1.Text, .list 1 (a_1.Marks.map PV.str), .list 2 (a_1.Attrs.map api_Attr.pv), .list 5 (a_1.Kids.map api_Node.pv)], .agg [.str b_2.Kind, .str b_2.Text, .list 1 (b_2.Marks.map PV.str), .list 2 (b_2.Attrs.map api_Attr.pv), .list 5 (b_2.Kids.map api_Node.pv)]] (.bool R)) ∧
    (∀ (a_1 : (List api_Node)) (b_2 : (List api_Node)) (R : Bool), diptychref1_SameAll_k kr a_1 b_2 = some R → PC Tryd.prog 27 [.list 5 (a_1.map api_Node.pv), .list 5 (b_2.map api_Node.pv)] (.bool R)) := by
  intro kr
  induction kr with
  | zero => exact ⟨(by intro a_1 b_2 R hh; rw [diptychref1_Same_k] at hh; cases hh), (by intro a_1 b_2 R hh; rw [diptychref1_SameAll_k] at hh; cases hh)⟩
  | succ kr ih =>
    obtain ⟨ih_diptychref1_Same, ih_diptychref1_SameAll⟩ := ih
    refine ⟨?_, ?_⟩
    · intro a_1 b_2 R hh
      rw [diptychref1_Same_k] at hh
      refine start_diptychref1_Same rfl ?_
      refine awp_first fun K kk hK => ?_
      simp only [go_sem]
      refine hK _ _ fun nx => ?_; clear hK K; try clear kk
      refine awp_seq ?_
      by_cases h1 : (!(a_1.Kind == b_2.Kind)) = true
      · rw [if_pos h1] at hh
        refine awp_first fun K kk hK => ?_
        simp only [go_sem, h1, h1]
        (repeat refine sd ?_)
        refine hK _ _ fun nx => ?_; clear hK K; try clear kk
        refine awp_true rfl ?_
        refine awp_first fun K kk hK => ?_
        simp only [go_sem]
        refine hK _ _ fun nx => ?_; clear hK K; try clear kk
        refine awp_ret ?_; refine nmx ?_
        obtain hR := Option.some.inj hh
        subst hR
        exact ret_p2
      · rw [if_neg h1] at hh
        replace h1 := Bool.eq_false_iff.mpr h1
        by_cases h2 : (!(a_1.Text == b_2.Text)) = true
        · rw [if_pos h2] at hh
          refine awp_first fun K kk hK => ?_
          simp only [go_sem, h1, h1, h2, h2]
          (repeat refine sd ?_)
          refine hK _ _ fun nx => ?_; clear hK K; try clear kk
          refine awp_true rfl ?_
          refine awp_first fun K kk hK => ?_
          simp only [go_sem]
          refine hK _ _ fun nx => ?_; clear hK K; try clear kk
          refine awp_ret ?_; refine nmx ?_
          obtain hR := Option.some.inj hh
          subst hR
          exact ret_p2
        · rw [if_neg h2] at hh
          replace h2 := Bool.eq_false_iff.mpr h2
          obtain ⟨samena_3, h3, hh⟩ := bind_ex hh
          by_cases h4 : (!samena_3) = true
          · rw [if_pos h4] at hh
            refine awp_first fun K kk hK => ?_
            simp only [go_sem, h1, h1, h2, h2, h4, h4]
            (repeat refine sd ?_)
            refine step_call2 (diptychref1_sameNames_ok _ _ _ h3) (by (try simp only [go_sem, h1, h1, h2, h2, h4, h4]) <;> exact wkl) (by rfl) (by rfl) ?_
            simp only [go_sem, h1, h1, h2, h2, h4, h4]
            (repeat refine sd ?_)
            refine hK _ _ fun nx => ?_; clear hK K; try clear kk
            refine awp_true rfl ?_
            refine awp_first fun K kk hK => ?_
            simp only [go_sem]
            refine hK _ _ fun nx => ?_; clear hK K; try clear kk
            refine awp_ret ?_; refine nmx ?_
            obtain hR := Option.some.inj hh
            subst hR
            exact ret_p2
          · rw [if_neg h4] at hh
            replace h4 := Bool.eq_false_iff.mpr h4
            refine awp_first fun K kk hK => ?_
            simp only [go_sem, h1, h1, h2, h2, h4, h4]
            (repeat refine sd ?_)
            refine step_call2 (diptychref1_sameNames_ok _ _ _ h3) (by (try simp only [go_sem, h1, h1, h2, h2, h4, h4]) <;> exact wkl) (by rfl) (by rfl) ?_
            simp only [go_sem, h1, h1, h2, h2, h4, h4]
            (repeat refine sd ?_)
            refine hK _ _ fun nx => ?_; clear hK K; try clear kk
            by_cases h5 : ((a_1.Attrs.length : Int) != (b_2.Attrs.length : Int)) = true
            · rw [if_pos h5] at hh
              refine awp_true (by first | exact congrArg PV.bool h5 | rfl) ?_
              refine awp_first fun K kk hK => ?_
              simp only [go_sem]
              refine hK _ _ fun nx => ?_; clear hK K; try clear kk
              refine awp_ret ?_; refine nmx ?_
              obtain hR := Option.some.inj hh
              subst hR
              exact ret_p2
            · rw [if_neg h5] at hh
              replace h5 := Bool.eq_false_iff.mpr h5
              refine awp_false (by first | exact congrArg PV.bool h5 | rfl) ?_
              refine awp_skip ?_; refine nmx ?_
              refine awp_seq ?_
              refine awp_first fun K kk hK => ?_
              simp only [go_sem]
              refine hK _ _ fun nx => ?_; clear hK K; try clear kk
              obtain ⟨e0, f0, hh⟩ := bind_ex hh
              obtain ⟨hlen0, f0⟩ := chk_some f0
              refine awp_fragE (CutTo (fun s => .inr () = e0 ∧ ∃ (i_12 : Int) (v_13 : Bool) (nx : Nat) (g2 : Nat) (g3 : Nat), s = ⟨[(2, .box 2 g2 0), (3, .box 3 g3 0), (5, .int .i64 i_12), (39, .bool v_13)], [(2, g2, .var 26 [.str a_1.Kind, .str a_1.Text, .list 1 (a_1.Marks.map PV.str), .list 2 (a_1.Attrs.map api_Attr.pv), .list 5 (a_1.Kids.map api_Node.pv)]), (3, g3, .var 26 [.str b_2.Kind, .str b_2.Text, .list 1 (b_2.Marks.map PV.str), .list 2 (b_2.Attrs.map api_Attr.pv), .list 5 (b_2.Kids.map api_Node.pv)])], nx⟩))
                (fun i s => False)
                (fun s => ∃ res_11, .inl res_11 = e0 ∧ bodyR Tryd.prog [.tmp 4] (.bool res_11) [] .ret s) ?_ ?_ ?_ ?_
              · refine awp_block ?_
                refine awp_loopJ fun I hI => ?_
                have key : ∀ (suf pre : List api_Attr) (i_6 : Int), a_1.Attrs = pre ++ suf → i_6 = (pre.length : Int) → diptychref1_Same_l0 b_2 suf i_6 = some e0 → ∀ (nx : Nat) (g2 : Nat) (g3 : Nat), I ⟨[(2, .box 2 g2 0), (3, .box 3 g3 0), (5, .int .i64 i_6)], [(2, g2, .var 26 [.str a_1.Kind, .str a_1.Text, .list 1 (a_1.Marks.map PV.str), .list 2 (a_1.Attrs.map api_Attr.pv), .list 5 (a_1.Kids.map api_Node.pv)]), (3, g3, .var 26 [.str b_2.Kind, .str b_2.Text, .list 1 (b_2.Marks.map PV.str), .list 2 (b_2.Attrs.map api_Attr.pv), .list 5 (b_2.Kids.map api_Node.pv)])], nx⟩ := by
                  intro suf
                  induction suf with
                  | nil =>
                    intro pre i_6 hsplit hidx hh nx g2 g3
                    rw [diptychref1_Same_l0] at hh
                    refine hI _ ?_
                    have h14 := walk_nil hsplit hidx
                    refine awp_seq ?_
                    refine awp_first fun K kk hK => ?_
                    simp only [go_sem]
                    refine hK _ _ fun nx => ?_; clear hK K; try clear kk
                    refine awp_false (by first | exact congrArg PV.bool h14 | rfl) ?_
                    refine awp_exit ?_; refine nmx ?_
                    refine fragN ?_
                    refine cut_id ?_
                    refine ⟨(Option.some.inj hh), ?_⟩
                    first | exact ⟨_, _, _, _, _, rfl⟩ | (simp only [api_Attr.pv_eq, api_Node.pv_eq, codec_reader.pv_eq, diptychlaw2_Cell.pv_eq, pvL, List.map_cons, List.map_nil, List.map_append, rune1]; exact ⟨_, _, _, _, _, rfl⟩) | (simp only [api_Attr.pv_eq, api_Node.pv_eq, codec_reader.pv_eq, diptychlaw2_Cell.pv_eq, pvL, List.map_cons, List.map_nil, List.map_append, rune1, h1, h14, h2, h4, h5]; exact ⟨_, _, _, _, _, rfl⟩)
                  | cons y_9 suf ih =>
                    intro pre i_6 hsplit hidx hh nx g2 g3
                    rw [diptychref1_Same_l0] at hh
                    refine hI _ ?_
                    obtain ⟨hl0a, hl0b, hl0d, hl0w, h14⟩ := walk_cons (f := api_Attr.pv) hsplit hidx hlen0
                    refine awp_seq ?_
                    refine awp_first fun K kk hK => ?_
                    simp only [go_sem]
                    refine hK _ _ fun nx => ?_; clear hK K; try clear kk
                    refine awp_true (by first | exact congrArg PV.bool h14 | rfl) ?_
                    refine awp_skip ?_; refine nmx ?_
                    refine awp_seq ?_
                    refine awp_block ?_
                    obtain ⟨x_10, h15, hh⟩ := bind_ex hh
                    obtain ⟨h15a, h15b, h15c⟩ := rd_some h15
                    have h15d := rd_get (f := api_Attr.pv) h15c
                    have h15f := rd_more (f := api_Attr.pv) h15c
                    try simp only [Int.toNat_natCast, Int.reduceToNat] at h15d h15f
                    refine awp_first fun K kk hK => ?_
                    simp only [go_sem, h15a, h15b, h15d, h15f.1, h15f.2, hl0a, hl0b, hl0d, hl0w]
                    (repeat refine sd ?_)
                    refine hK _ _ fun nx => ?_; clear hK K; try clear kk
                    by_cases h16 : ((((y_9.Name == x_10.Name) && (y_9.Value == x_10.Value)) != true)) = true
                    · rw [if_pos h16] at hh
                      refine awp_true (by first | exact congrArg PV.bool h16 | rfl) ?_
                      refine awp_first fun K kk hK => ?_
                      simp only [go_sem, hl0a, hl0b, hl0d, hl0w]
                      refine hK _ _ fun nx => ?_; clear hK K; try clear kk
                      refine awp_ret ?_; refine nmx ?_
                      refine fragR ⟨_, (Option.some.inj hh), ?_⟩
                      exact ret_p2
                    · rw [if_neg h16] at hh
                      replace h16 := Bool.eq_false_iff.mpr h16
                      refine awp_false (by first | exact congrArg PV.bool h16 | rfl) ?_
                      refine awp_skip ?_; refine nmx ?_
                      refine awp_region fun K kk hK => ?_
                      simp only [go_sem, hl0a, hl0b, hl0d, hl0w]
                      refine hK _ _ fun nx => ?_; clear hK K; try clear kk
                      refine nmx ?_
                      have ih' := ih (pre ++ [y_9]) (i_6 + 1) (by rw [hsplit]; simp) (by simp [hidx]) hh nx
                      refine cut_id ?_
                      first | exact ih' _ _ | (simp only [api_Attr.pv_eq, api_Node.pv_eq, codec_reader.pv_eq, diptychlaw2_Cell.pv_eq, pvL, List.map_cons, List.map_nil, List.map_append, rune1] at ih' ⊢; exact ih' _ _) | (simp only [api_Attr.pv_eq, api_Node.pv_eq, codec_reader.pv_eq, diptychlaw2_Cell.pv_eq, pvL, List.map_cons, List.map_nil, List.map_append, rune1, h1, h14, h16, h2, h4, h5] at ih' ⊢; exact ih' _ _)
                exact key a_1.Attrs [] _ rfl rfl f0 _ _ _
              · rintro s ⟨t, hless, rfl, i_12, v_13, nx, g2, g3, rfl⟩
                try dsimp only at hh
                refine nmy ?_
                first | (refine cut_less hless ?_; try refine cut_awp ?_) | refine frag_less hless ?_ | refine body_less hless ?_
                obtain ⟨sameal_14, h17, hh⟩ := bind_ex hh
                refine awp_first fun K kk hK => ?_
                simp only [go_sem]
                refine step_call2 (ih_diptychref1_SameAll _ _ _ h17) (by (try simp only [go_sem]) <;> exact wkl) (by rfl) (by rfl) ?_
                simp only [go_sem]
                refine hK _ _ fun nx => ?_; clear hK K; try clear kk
                refine awp_ret ?_; refine nmx ?_
                obtain hR := Option.some.inj hh
                subst hR
                exact ret_p2
              · intro i s h; exact h.elim
              · rintro s ⟨res_11, rfl, hb⟩
                try dsimp only at hh
                obtain hR := Option.some.inj hh
                subst hR
                refine nmx ?_
                exact hb
    · intro a_1 b_2 R hh
      rw [diptychref1_SameAll_k] at hh
      refine start_diptychref1_SameAll rfl ?_
      refine awp_first fun K kk hK => ?_
      simp only [go_sem]
      refine hK _ _ fun nx => ?_; clear hK K; try clear kk
      refine awp_seq ?_
      refine awp_first fun K kk hK => ?_
      simp only [go_sem]
      refine hK _ _ fun nx => ?_; clear hK K; try clear kk
      by_cases h1 : ((a_1.length : Int) != (b_2.length : Int)) = true
      · rw [if_pos h1] at hh
        refine awp_true (by first | exact congrArg PV.bool h1 | rfl) ?_
        refine awp_first fun K kk hK => ?_
        simp only [go_sem]
        refine hK _ _ fun nx => ?_; clear hK K; try clear kk
        refine awp_ret ?_; refine nmx ?_
        obtain hR := Option.some.inj hh
        subst hR
        exact ret_p2
      · rw [if_neg h1] at hh
        replace h1 := Bool.eq_false_iff.mpr h1
        refine awp_false (by first | exact congrArg PV.bool h1 | rfl) ?_
        refine awp_skip ?_; refine nmx ?_
        refine awp_seq ?_
        refine awp_first fun K kk hK => ?_
        simp only [go_sem]
        refine hK _ _ fun nx => ?_; clear hK K; try clear kk
        obtain ⟨e0, f0, hh⟩ := bind_ex hh
        obtain ⟨hlen0, f0⟩ := chk_some f0
        refine awp_fragE (CutTo (fun s => .inr () = e0 ∧ ∃ (i_14 : Int) (v_15 : Bool) (nx : Nat), s = ⟨[(0, .list 5 (a_1.map api_Node.pv)), (1, .list 5 (b_2.map api_Node.pv)), (5, .int .i64 i_14), (14, .bool v_15)], [], nx⟩))
          (fun i s => False)
          (fun s => ∃ res_13, .inl res_13 = e0 ∧ bodyR Tryd.prog [.tmp 4] (.bool res_13) [] .ret s) ?_ ?_ ?_ ?_
        · refine awp_block ?_
          refine awp_loopJ fun I hI => ?_
          have key : ∀ (suf pre : List api_Node) (i_6 : Int), a_1 = pre ++ suf → i_6 = (pre.length : Int) → diptychref1_SameAll_l0 b_2 (diptychref1_Same_k kr) suf i_6 = some e0 → ∀ (nx : Nat), I ⟨[(0, .list 5 (a_1.map api_Node.pv)), (1, .list 5 (b_2.map api_Node.pv)), (5, .int .i64 i_6)], [], nx⟩ := by
            intro suf
            induction suf with
            | nil =>
              intro pre i_6 hsplit hidx hh nx
              rw [diptychref1_SameAll_l0] at hh
              refine hI _ ?_
              have h12 := walk_nil hsplit hidx
              refine awp_seq ?_
              refine awp_first fun K kk hK => ?_
              simp only [go_sem]
              refine hK _ _ fun nx => ?_; clear hK K; try clear kk
              refine awp_false (by first | exact congrArg PV.bool h12 | rfl) ?_
              refine awp_exit ?_; refine nmx ?_
              refine fragN ?_
              refine cut_id ?_
              refine ⟨(Option.some.inj hh), ?_⟩
              first | exact ⟨_, _, _, rfl⟩ | (simp only [api_Attr.pv_eq, api_Node.pv_eq, codec_reader.pv_eq, diptychlaw2_Cell.pv_eq, pvL, List.map_cons, List.map_nil, List.map_append, rune1]; exact ⟨_, _, _, rfl⟩) | (simp only [api_Attr.pv_eq, api_Node.pv_eq, codec_reader.pv_eq, diptychlaw2_Cell.pv_eq, pvL, List.map_cons, List.map_nil, List.map_append, rune1, h1, h12]; exact ⟨_, _, _, rfl⟩)
            | cons y_10 suf ih =>
              intro pre i_6 hsplit hidx hh nx
              rw [diptychref1_SameAll_l0] at hh
              refine hI _ ?_
              obtain ⟨hl0a, hl0b, hl0d, hl0w, h12⟩ := walk_cons (f := api_Node.pv) hsplit hidx hlen0
              refine awp_seq ?_
              refine awp_first fun K kk hK => ?_
              simp only [go_sem]
              refine hK _ _ fun nx => ?_; clear hK K; try clear kk
              refine awp_true (by first | exact congrArg PV.bool h12 | rfl) ?_
              refine awp_skip ?_; refine nmx ?_
              refine awp_seq ?_
              refine awp_block ?_
              obtain ⟨x_11, h13, hh⟩ := bind_ex hh
              obtain ⟨h13a, h13b, h13c⟩ := rd_some h13
              have h13d := rd_get (f := api_Node.pv) h13c
              have h13f := rd_more (f := api_Node.pv) h13c
              try simp only [Int.toNat_natCast, Int.reduceToNat] at h13d h13f
              obtain ⟨same_12, h14, hh⟩ := bind_ex hh
              refine awp_first fun K kk hK => ?_
              simp only [go_sem, h13a, h13b, h13d, h13f.1, h13f.2, hl0a, hl0b, hl0d, hl0w]
              (repeat refine sd ?_)
              refine step_call2 (ih_diptychref1_Same _ _ _ h14) (by (try simp only [go_sem, h13a, h13b, h13d, h13f.1, h13f.2, hl0a, hl0b, hl0d, hl0w]) <;> exact wkl) (by rfl) (by rfl) ?_
              simp only [go_sem, h13a, h13b, h13d, h13f.1, h13f.2, hl0a, hl0b, hl0d, hl0w]
              (repeat refine sd ?_)
              refine hK _ _ fun nx => ?_; clear hK K; try clear kk
              by_cases h15 : (!same_12) = true
              · rw [if_pos h15] at hh
                refine awp_true (by first | exact congrArg PV.bool h15 | rfl) ?_
                refine awp_first fun K kk hK => ?_
                simp only [go_sem, hl0a, hl0b, hl0d, hl0w]
                refine hK _ _ fun nx => ?_; clear hK K; try clear kk
                refine awp_ret ?_; refine nmx ?_
                refine fragR ⟨_, (Option.some.inj hh), ?_⟩
                exact ret_p2
              · rw [if_neg h15] at hh
                replace h15 := Bool.eq_false_iff.mpr h15
                refine awp_false (by first | exact congrArg PV.bool h15 | rfl) ?_
                refine awp_skip ?_; refine nmx ?_
                refine awp_region fun K kk hK => ?_
                simp only [go_sem, hl0a, hl0b, hl0d, hl0w]
                refine hK _ _ fun nx => ?_; clear hK K; try clear kk
                refine nmx ?_
                have ih' := ih (pre ++ [y_10]) (i_6 + 1) (by rw [hsplit]; simp) (by simp [hidx]) hh nx
                refine cut_id ?_
                first | exact ih' | (simp only [api_Attr.pv_eq, api_Node.pv_eq, codec_reader.pv_eq, diptychlaw2_Cell.pv_eq, pvL, List.map_cons, List.map_nil, List.map_append, rune1] at ih' ⊢; exact ih') | (simp only [api_Attr.pv_eq, api_Node.pv_eq, codec_reader.pv_eq, diptychlaw2_Cell.pv_eq, pvL, List.map_cons, List.map_nil, List.map_append, rune1, h1, h12, h15] at ih' ⊢; exact ih')
          exact key a_1 [] _ rfl rfl f0 _
        · rintro s ⟨t, hless, rfl, i_14, v_15, nx, rfl⟩
          try dsimp only at hh
          refine nmy ?_
          first | (refine cut_less hless ?_; try refine cut_awp ?_) | refine frag_less hless ?_ | refine body_less hless ?_
          refine awp_first fun K kk hK => ?_
          simp only [go_sem]
          refine hK _ _ fun nx => ?_; clear hK K; try clear kk
          refine awp_ret ?_; refine nmx ?_
          obtain hR := Option.some.inj hh
          subst hR
          exact ret_p2
        · intro i s h; exact h.elim
        · rintro s ⟨res_13, rfl, hb⟩
          try dsimp only at hh
          obtain hR := Option.some.inj hh
          subst hR
          refine nmx ?_
          exact hb
theorem diptychref1_Same_ok (a_1 : api_Node) (b_2 : api_Node) (R : Bool) (hh : diptychref1_Same a_1 b_2 = some R) : PC Tryd.prog 26 [.agg [.str a_1.Kind, .str a_1.Text, .list 1 (a_1.Marks.map PV.str), .list 2 (a_1.Attrs.map api_Attr.pv), .list 5 (a_1.Kids.map api_Node.pv)], .agg [.str b_2.Kind, .str b_2.Text, .list 1 (b_2.Marks.map PV.str), .list 2 (b_2.Attrs.map api_Attr.pv), .list 5 (b_2.Kids.map api_Node.pv)]] (.bool R) := by
  rw [diptychref1_Same] at hh
  obtain ⟨kr, hh⟩ := lim_some hh
  exact (diptychref1_Same_grp kr).1 _ _ _ hh
theorem diptychref1_SameAll_ok (a_1 : (List api_Node)) (b_2 : (List api_Node)) (R : Bool) (hh : diptychref1_SameAll a_1 b_2 = some R) : PC Tryd.prog 27 [.list 5 (a_1.map api_Node.pv), .list 5 (b_2.map api_Node.pv)] (.bool R) := by
  rw [diptychref1_SameAll] at hh
  obtain ⟨kr, hh⟩ := lim_some hh
  exact (diptychref1_Same_grp kr).2 _ _ _ hh
theorem node_Right_ok (n_1 : api_Node) (R : Bool) (hh : node_Right n_1 = some R) : PC Tryd.prog 31 [.agg [.str n_1.Kind, .str n_1.Text, .list 1 (n_1.Marks.map PV.str), .list 2 (n_1.Attrs.map api_Attr.pv), .list 5 (n_1.Kids.map api_Node.pv)]] (.bool R) := by
  rw [node_Right] at hh
  refine start_node_Right rfl ?_
  refine awp_first fun K kk hK => ?_
  simp only [go_sem]
  refine hK _ _ fun nx => ?_; clear hK K; try clear kk
  obtain ⟨check_2, h1, hh⟩ := bind_ex hh
  refine awp_first fun K kk hK => ?_
  simp only [go_sem]
  refine step_call2 (node_Check_ok _ _ h1) (by (try simp only [go_sem]) <;> exact wkl) (by rfl) (by rfl) ?_
  simp only [go_sem]
  refine hK _ _ fun nx => ?_; clear hK K; try clear kk
  refine awp_ret ?_; refine nmx ?_
  obtain hR := Option.some.inj hh
  subst hR
  exact ret_p2
theorem diptychlaw2_CodecBack_ok (l_1 : (List diptychlaw2_Cell)) (s_2 : Str) (at_3 : Int) (R : Bool) (hh : diptychlaw2_CodecBack l_1 s_2 at_3 = some R) : PC Tryd.prog 9 [.list 3 (l_1.map diptychlaw2_Cell.pv), .str s_2, .int .i64 at_3] (.bool R) := by
  rw [diptychlaw2_CodecBack] at hh
  refine start_diptychlaw2_CodecBack rfl ?_
  refine awp_first fun K kk hK => ?_
  simp only [go_sem]
  refine hK _ _ fun nx => ?_; clear hK K; try clear kk
  obtain ⟨shown_4, h1, hh⟩ := bind_ex hh
  refine awp_first fun K kk hK => ?_
  simp only [go_sem]
  refine step_call2 (diptychlaw2_shown_ok _ h1) (by (try simp only [go_sem]) <;> exact wkl) (by rfl) (by rfl) ?_
  simp only [go_sem]
  refine hK _ _ fun nx => ?_; clear hK K; try clear kk
  refine awp_seq ?_
  by_cases h2 : (!shown_4) = true
  · rw [if_pos h2] at hh
    refine awp_first fun K kk hK => ?_
    simp only [go_sem, h2, h2]
    (repeat refine sd ?_)
    refine hK _ _ fun nx => ?_; clear hK K; try clear kk
    refine awp_true rfl ?_
    refine awp_first fun K kk hK => ?_
    simp only [go_sem]
    refine hK _ _ fun nx => ?_; clear hK K; try clear kk
    refine awp_ret ?_; refine nmx ?_
    obtain hR := Option.some.inj hh
    subst hR
    exact ret_p2
  · rw [if_neg h2] at hh
    replace h2 := Bool.eq_false_iff.mpr h2
    refine awp_first fun K kk hK => ?_
    simp only [go_sem, h2, h2]
    (repeat refine sd ?_)
    refine hK _ _ fun nx => ?_; clear hK K; try clear kk
    by_cases h3 : (decide ((s_2.length : Int) > (1500 : Int))) = true
    · rw [if_pos h3] at hh
      refine awp_true (by first | exact congrArg PV.bool h3 | rfl) ?_
      refine awp_first fun K kk hK => ?_
      simp only [go_sem]
      refine hK _ _ fun nx => ?_; clear hK K; try clear kk
      refine awp_ret ?_; refine nmx ?_
      obtain hR := Option.some.inj hh
      subst hR
      exact ret_p2
    · rw [if_neg h3] at hh
      replace h3 := Bool.eq_false_iff.mpr h3
      refine awp_false (by first | exact congrArg PV.bool h3 | rfl) ?_
      refine awp_skip ?_; refine nmx ?_
      obtain ⟨doc_5, h4, hh⟩ := bind_ex hh
      refine awp_first fun K kk hK => ?_
      simp only [go_sem]
      refine step_call2 (diptychlaw2_doc_ok _ _ h4) (by (try simp only [go_sem]) <;> exact wkl) (by rfl) (by rfl) ?_
      simp only [go_sem]
      refine hK _ _ fun nx => ?_; clear hK K; try clear kk
      obtain ⟨⟨r_6, r_7⟩, h5, hh⟩ := bind_ex hh
      dsimp only at hh
      refine awp_first fun K kk hK => ?_
      simp only [go_sem]
      refine step_call2 (codec_Print_ok _ _ h5) (by (try simp only [go_sem]) <;> exact wkl) (by rfl) (by rfl) ?_
      simp only [go_sem]
      refine hK _ _ fun nx => ?_; clear hK K; try clear kk
      obtain ⟨⟨r_8, r_9⟩, h6, hh⟩ := bind_ex hh
      dsimp only at hh
      refine awp_first fun K kk hK => ?_
      simp only [go_sem]
      refine step_call2 (codec_Parse_ok _ _ h6) (by (try simp only [go_sem]) <;> exact wkl) (by rfl) (by rfl) ?_
      simp only [go_sem]
      refine hK _ _ fun nx => ?_; clear hK K; try clear kk
      obtain ⟨⟨r_10, r_11⟩, h7, hh⟩ := bind_ex hh
      dsimp only at hh
      refine awp_first fun K kk hK => ?_
      simp only [go_sem]
      refine step_call2 (codec_PrintAll_ok _ _ h7) (by (try simp only [go_sem]) <;> exact wkl) (by rfl) (by rfl) ?_
      simp only [go_sem]
      refine hK _ _ fun nx => ?_; clear hK K; try clear kk
      obtain ⟨⟨r_12, r_13⟩, h8, hh⟩ := bind_ex hh
      dsimp only at hh
      refine awp_first fun K kk hK => ?_
      simp only [go_sem]
      refine step_call2 (codec_ParseAll_ok _ _ h8) (by (try simp only [go_sem]) <;> exact wkl) (by rfl) (by rfl) ?_
      simp only [go_sem]
      refine hK _ _ fun nx => ?_; clear hK K; try clear kk
      refine awp_seq ?_
      by_cases h9 : (r_7 != (0 : Int)) = true
      · rw [if_pos h9] at hh
        refine awp_first fun K kk hK => ?_
        simp only [go_sem, h9, h9]
        (repeat refine sd ?_)
        refine hK _ _ fun nx => ?_; clear hK K; try clear kk
        refine awp_true rfl ?_
        refine awp_first fun K kk hK => ?_
        simp only [go_sem]
        refine hK _ _ fun nx => ?_; clear hK K; try clear kk
        refine awp_ret ?_; refine nmx ?_
        obtain hR := Option.some.inj hh
        subst hR
        exact ret_p2
      · rw [if_neg h9] at hh
        replace h9 := Bool.eq_false_iff.mpr h9
        by_cases h10 : (r_9 != (0 : Int)) = true
        · rw [if_pos h10] at hh
          refine awp_first fun K kk hK => ?_
          simp only [go_sem, h9, h9, h10, h10]
          (repeat refine sd ?_)
          refine hK _ _ fun nx => ?_; clear hK K; try clear kk
          refine awp_true rfl ?_
          refine awp_first fun K kk hK => ?_
          simp only [go_sem]
          refine hK _ _ fun nx => ?_; clear hK K; try clear kk
          refine awp_ret ?_; refine nmx ?_
          obtain hR := Option.some.inj hh
          subst hR
          exact ret_p2
        · rw [if_neg h10] at hh
          replace h10 := Bool.eq_false_iff.mpr h10
          obtain ⟨same_14, h11, hh⟩ := bind_ex hh
          by_cases h12 : (!same_14) = true
          · rw [if_pos h12] at hh
            refine awp_first fun K kk hK => ?_
            simp only [go_sem, h9, h9, h10, h10, h12, h12]
            (repeat refine sd ?_)
            refine step_call2 (node_Same_ok _ _ _ h11) (by (try simp only [go_sem, h9, h9, h10, h10, h12, h12]) <;> exact wkl) (by rfl) (by rfl) ?_
            simp only [go_sem, h9, h9, h10, h10, h12, h12]
            (repeat refine sd ?_)
            refine hK _ _ fun nx => ?_; clear hK K; try clear kk
            refine awp_true rfl ?_
            refine awp_first fun K kk hK => ?_
            simp only [go_sem]
            refine hK _ _ fun nx => ?_; clear hK K; try clear kk
            refine awp_ret ?_; refine nmx ?_
            obtain hR := Option.some.inj hh
            subst hR
            exact ret_p2
          · rw [if_neg h12] at hh
            replace h12 := Bool.eq_false_iff.mpr h12
            by_cases h13 : (r_11 != (0 : Int)) = true
            · rw [if_pos h13] at hh
              refine awp_first fun K kk hK => ?_
              simp only [go_sem, h9, h9, h10, h10, h12, h12, h13, h13]
              (repeat refine sd ?_)
              refine step_call2 (node_Same_ok _ _ _ h11) (by (try simp only [go_sem, h9, h9, h10, h10, h12, h12, h13, h13]) <;> exact wkl) (by rfl) (by rfl) ?_
              simp only [go_sem, h9, h9, h10, h10, h12, h12, h13, h13]
              (repeat refine sd ?_)
              refine hK _ _ fun nx => ?_; clear hK K; try clear kk
              refine awp_true rfl ?_
              refine awp_first fun K kk hK => ?_
              simp only [go_sem]
              refine hK _ _ fun nx => ?_; clear hK K; try clear kk
              refine awp_ret ?_; refine nmx ?_
              obtain hR := Option.some.inj hh
              subst hR
              exact ret_p2
            · rw [if_neg h13] at hh
              replace h13 := Bool.eq_false_iff.mpr h13
              by_cases h14 : (r_13 != (0 : Int)) = true
              · rw [if_pos h14] at hh
                refine awp_first fun K kk hK => ?_
                simp only [go_sem, h9, h9, h10, h10, h12, h12, h13, h13, h14, h14]
                (repeat refine sd ?_)
                refine step_call2 (node_Same_ok _ _ _ h11) (by (try simp only [go_sem, h9, h9, h10, h10, h12, h12, h13, h13, h14, h14]) <;> exact wkl) (by rfl) (by rfl) ?_
                simp only [go_sem, h9, h9, h10, h10, h12, h12, h13, h13, h14, h14]
                (repeat refine sd ?_)
                refine hK _ _ fun nx => ?_; clear hK K; try clear kk
                refine awp_true rfl ?_
                refine awp_first fun K kk hK => ?_
                simp only [go_sem]
                refine hK _ _ fun nx => ?_; clear hK K; try clear kk
                refine awp_ret ?_; refine nmx ?_
                obtain hR := Option.some.inj hh
                subst hR
                exact ret_p2
              · rw [if_neg h14] at hh
                replace h14 := Bool.eq_false_iff.mpr h14
                obtain ⟨sameal_15, h15, hh⟩ := bind_ex hh
                by_cases h16 : (!sameal_15) = true
                · rw [if_pos h16] at hh
                  refine awp_first fun K kk hK => ?_
                  simp only [go_sem, h9, h9, h10, h10, h12, h12, h13, h13, h14, h14, h16, h16]
                  (repeat refine sd ?_)
                  refine step_call2 (node_Same_ok _ _ _ h11) (by (try simp only [go_sem, h9, h9, h10, h10, h12, h12, h13, h13, h14, h14, h16, h16]) <;> exact wkl) (by rfl) (by rfl) ?_
                  simp only [go_sem, h9, h9, h10, h10, h12, h12, h13, h13, h14, h14, h16, h16]
                  (repeat refine sd ?_)
                  refine step_call2 (diptychref1_SameAll_ok _ _ _ h15) (by (try simp only [go_sem, h9, h9, h10, h10, h12, h12, h13, h13, h14, h14, h16, h16]) <;> exact wkl) (by rfl) (by rfl) ?_
                  simp only [go_sem, h9, h9, h10, h10, h12, h12, h13, h13, h14, h14, h16, h16]
                  (repeat refine sd ?_)
                  refine hK _ _ fun nx => ?_; clear hK K; try clear kk
                  refine awp_true rfl ?_
                  refine awp_first fun K kk hK => ?_
                  simp only [go_sem]
                  refine hK _ _ fun nx => ?_; clear hK K; try clear kk
                  refine awp_ret ?_; refine nmx ?_
                  obtain hR := Option.some.inj hh
                  subst hR
                  exact ret_p2
                · rw [if_neg h16] at hh
                  replace h16 := Bool.eq_false_iff.mpr h16
                  obtain ⟨h17, hh⟩ := chk_some hh
                  obtain ⟨h18, hh⟩ := chk_some hh
                  refine awp_first fun K kk hK => ?_
                  simp only [go_sem, h9, h9, h10, h10, h12, h12, h13, h13, h14, h14, h16, h17, h18, h16]
                  (repeat refine sd ?_)
                  refine step_call2 (node_Same_ok _ _ _ h11) (by (try simp only [go_sem, h9, h9, h10, h10, h12, h12, h13, h13, h14, h14, h16, h17, h18, h16]) <;> exact wkl) (by rfl) (by rfl) ?_
                  simp only [go_sem, h9, h9, h10, h10, h12, h12, h13, h13, h14, h14, h16, h17, h18, h16]
                  (repeat refine sd ?_)
                  refine step_call2 (diptychref1_SameAll_ok _ _ _ h15) (by (try simp only [go_sem, h9, h9, h10, h10, h12, h12, h13, h13, h14, h14, h16, h17, h18, h16]) <;> exact wkl) (by rfl) (by rfl) ?_
                  simp only [go_sem, h9, h9, h10, h10, h12, h12, h13, h13, h14, h14, h16, h17, h18, h16]
                  (repeat refine sd ?_)
                  refine hK _ _ fun nx => ?_; clear hK K; try clear kk
                  by_cases h19 : (!(r_6 == ((([100, 111, 99, 91] : Str) ++ r_10) ++ ([93] : Str)))) = true
                  · rw [if_pos h19] at hh
                    refine awp_true (by first | exact congrArg PV.bool h19 | rfl) ?_
                    refine awp_first fun K kk hK => ?_
                    simp only [go_sem]
                    refine hK _ _ fun nx => ?_; clear hK K; try clear kk
                    refine awp_ret ?_; refine nmx ?_
                    obtain hR := Option.some.inj hh
                    subst hR
                    exact ret_p2
                  · rw [if_neg h19] at hh
                    replace h19 := Bool.eq_false_iff.mpr h19
                    refine awp_false (by first | exact congrArg PV.bool h19 | rfl) ?_
                    refine awp_skip ?_; refine nmx ?_
                    obtain ⟨pick_16, h20, hh⟩ := bind_ex hh
                    obtain ⟨s_17, h21, hh⟩ := bind_ex hh
                    obtain ⟨h21a, h21c⟩ := sl_some h21
                    have h21g := sl_le h21a
                    have h21d := sl_str0 h21c
                    try simp only [Int.toNat_natCast, Int.reduceToNat] at h21d
                    obtain ⟨⟨r_18, r_19⟩, h22, hh⟩ := bind_ex hh
                    dsimp only at hh
                    refine awp_first fun K kk hK => ?_
                    simp only [go_sem, h21a.1, h21a.2.1, h21a.2.2, h21d, h21g]
                    (repeat refine sd ?_)
                    refine step_call2 (diptychlaw2_pick_ok _ _ _ h20) (by (try simp only [go_sem, h21a.1, h21a.2.1, h21a.2.2, h21d, h21g]) <;> exact wkl) (by rfl) (by rfl) ?_
                    simp only [go_sem, h21a.1, h21a.2.1, h21a.2.2, h21d, h21g]
                    (repeat refine sd ?_)
                    refine step_call2 (codec_Parse_ok _ _ h22) (by (try simp only [go_sem, h21a.1, h21a.2.1, h21a.2.2, h21d, h21g]) <;> exact wkl) (by rfl) (by rfl) ?_
                    simp only [go_sem, h21a.1, h21a.2.1, h21a.2.2, h21d, h21g]
                    (repeat refine sd ?_)
                    refine hK _ _ fun nx => ?_; clear hK K; try clear kk
                    refine awp_seq ?_
                    by_cases h23 : (r_19 != (2 : Int)) = true
                    · rw [if_pos h23] at hh
                      refine awp_first fun K kk hK => ?_
                      simp only [go_sem, h23, h23]
                      (repeat refine sd ?_)
                      refine hK _ _ fun nx => ?_; clear hK K; try clear kk
                      refine awp_true rfl ?_
                      refine awp_first fun K kk hK => ?_
                      simp only [go_sem]
                      refine hK _ _ fun nx => ?_; clear hK K; try clear kk
                      refine awp_ret ?_; refine nmx ?_
                      obtain hR := Option.some.inj hh
                      subst hR
                      exact ret_p2
                    · rw [if_neg h23] at hh
                      replace h23 := Bool.eq_false_iff.mpr h23
                      by_cases h24 : (!(r_18.Kind == ([] : Str))) = true
                      · rw [if_pos h24] at hh
                        refine awp_first fun K kk hK => ?_
                        simp only [go_sem, h23, h23, h24, h24]
                        (repeat refine sd ?_)
                        refine hK _ _ fun nx => ?_; clear hK K; try clear kk
                        refine awp_true rfl ?_
                        refine awp_first fun K kk hK => ?_
                        simp only [go_sem]
                        refine hK _ _ fun nx => ?_; clear hK K; try clear kk
                        refine awp_ret ?_; refine nmx ?_
                        obtain hR := Option.some.inj hh
                        subst hR
                        exact ret_p2
                      · rw [if_neg h24] at hh
                        replace h24 := Bool.eq_false_iff.mpr h24
                        refine awp_first fun K kk hK => ?_
                        simp only [go_sem, h23, h23, h24, h24]
                        (repeat refine sd ?_)
                        refine hK _ _ fun nx => ?_; clear hK K; try clear kk
                        by_cases h25 : ((r_18.Kids.length : Int) != (0 : Int)) = true
                        · rw [if_pos h25] at hh
                          refine awp_true (by first | exact congrArg PV.bool h25 | rfl) ?_
                          refine awp_first fun K kk hK => ?_
                          simp only [go_sem]
                          refine hK _ _ fun nx => ?_; clear hK K; try clear kk
                          refine awp_ret ?_; refine nmx ?_
                          obtain hR := Option.some.inj hh
                          subst hR
                          exact ret_p2
                        · rw [if_neg h25] at hh
                          replace h25 := Bool.eq_false_iff.mpr h25
                          refine awp_false (by first | exact congrArg PV.bool h25 | rfl) ?_
                          refine awp_skip ?_; refine nmx ?_
                          obtain ⟨⟨r_20, r_21⟩, h26, hh⟩ := bind_ex hh
                          dsimp only at hh
                          refine awp_first fun K kk hK => ?_
                          simp only [go_sem]
                          refine step_call2 (codec_Parse_ok _ _ h26) (by (try simp only [go_sem]) <;> exact wkl) (by rfl) (by rfl) ?_
                          simp only [go_sem]
                          refine hK _ _ fun nx => ?_; clear hK K; try clear kk
                          refine awp_seq ?_
                          refine awp_first fun K kk hK => ?_
                          simp only [go_sem]
                          refine hK _ _ fun nx => ?_; clear hK K; try clear kk
                          by_cases h27 : (r_21 != (0 : Int)) = true
                          · rw [if_pos h27] at hh
                            refine awp_true (by first | exact congrArg PV.bool h27 | rfl) ?_
                            by_cases h28 : (r_20.Kind == ([] : Str)) = true
                            · rw [if_pos h28] at hh
                              refine awp_first fun K kk hK => ?_
                              simp only [go_sem, h28, h28]
                              (repeat refine sd ?_)
                              refine hK _ _ fun nx => ?_; clear hK K; try clear kk
                              refine awp_ret ?_; refine nmx ?_
                              obtain hR := Option.some.inj hh
                              subst hR
                              exact ret_p2
                            · rw [if_neg h28] at hh
                              replace h28 := Bool.eq_false_iff.mpr h28
                              refine awp_first fun K kk hK => ?_
                              simp only [go_sem, h28, h28]
                              (repeat refine sd ?_)
                              refine hK _ _ fun nx => ?_; clear hK K; try clear kk
                              refine awp_ret ?_; refine nmx ?_
                              obtain hR := Option.some.inj hh
                              subst hR
                              exact ret_p2
                          · rw [if_neg h27] at hh
                            replace h27 := Bool.eq_false_iff.mpr h27
                            refine awp_false (by first | exact congrArg PV.bool h27 | rfl) ?_
                            refine awp_skip ?_; refine nmx ?_
                            obtain ⟨⟨r_22, r_23⟩, h29, hh⟩ := bind_ex hh
                            dsimp only at hh
                            refine awp_first fun K kk hK => ?_
                            simp only [go_sem]
                            refine step_call2 (codec_Print_ok _ _ h29) (by (try simp only [go_sem]) <;> exact wkl) (by rfl) (by rfl) ?_
                            simp only [go_sem]
                            refine hK _ _ fun nx => ?_; clear hK K; try clear kk
                            by_cases h30 : (r_22 == s_2) = true
                            · rw [if_pos h30] at hh
                              by_cases h31 : (r_23 == (0 : Int)) = true
                              · rw [if_pos h31] at hh
                                obtain ⟨right_24, h32, hh⟩ := bind_ex hh
                                refine awp_first fun K kk hK => ?_
                                simp only [go_sem, h30, h30, h31, h31]
                                (repeat refine sd ?_)
                                refine step_call2 (node_Right_ok _ _ h32) (by (try simp only [go_sem, h30, h30, h31, h31]) <;> exact wkl) (by rfl) (by rfl) ?_
                                simp only [go_sem, h30, h30, h31, h31]
                                (repeat refine sd ?_)
                                refine hK _ _ fun nx => ?_; clear hK K; try clear kk
                                refine awp_ret ?_; refine nmx ?_
                                obtain hR := Option.some.inj hh
                                subst hR
                                exact ret_p2
                              · rw [if_neg h31] at hh
                                replace h31 := Bool.eq_false_iff.mpr h31
                                refine awp_first fun K kk hK => ?_
                                simp only [go_sem, h30, h30, h31, h31]
                                (repeat refine sd ?_)
                                refine hK _ _ fun nx => ?_; clear hK K; try clear kk
                                refine awp_ret ?_; refine nmx ?_
                                obtain hR := Option.some.inj hh
                                subst hR
                                exact ret_p2
                            · rw [if_neg h30] at hh
                              replace h30 := Bool.eq_false_iff.mpr h30
                              refine awp_first fun K kk hK => ?_
                              simp only [go_sem, h30, h30]
                              (repeat refine sd ?_)
                              refine hK _ _ fun nx => ?_; clear hK K; try clear kk
                              refine awp_ret ?_; refine nmx ?_
                              obtain hR := Option.some.inj hh
                              subst hR
                              exact ret_p2
theorem diptychlaw2_CodecParts_ok (l_1 : (List diptychlaw2_Cell)) (R : Bool) (hh : diptychlaw2_CodecParts l_1 = some R) : PC Tryd.prog 6 [.list 3 (l_1.map diptychlaw2_Cell.pv)] (.bool R) := by
  rw [diptychlaw2_CodecParts] at hh
  refine start_diptychlaw2_CodecParts rfl ?_
  refine awp_first fun K kk hK => ?_
  simp only [go_sem]
  refine hK _ _ fun nx => ?_; clear hK K; try clear kk
  obtain ⟨shown_2, h1, hh⟩ := bind_ex hh
  refine awp_first fun K kk hK => ?_
  simp only [go_sem]
  refine step_call2 (diptychlaw2_shown_ok _ h1) (by (try simp only [go_sem]) <;> exact wkl) (by rfl) (by rfl) ?_
  simp only [go_sem]
  refine hK _ _ fun nx => ?_; clear hK K; try clear kk
  refine awp_seq ?_
  refine awp_first fun K kk hK => ?_
  simp only [go_sem]
  refine hK _ _ fun nx => ?_; clear hK K; try clear kk
  by_cases h2 : (!shown_2) = true
  · rw [if_pos h2] at hh
    refine awp_true (by first | exact congrArg PV.bool h2 | rfl) ?_
    refine awp_first fun K kk hK => ?_
    simp only [go_sem]
    refine hK _ _ fun nx => ?_; clear hK K; try clear kk
    refine awp_ret ?_; refine nmx ?_
    obtain hR := Option.some.inj hh
    subst hR
    exact ret_p2
  · rw [if_neg h2] at hh
    replace h2 := Bool.eq_false_iff.mpr h2
    refine awp_false (by first | exact congrArg PV.bool h2 | rfl) ?_
    refine awp_skip ?_; refine nmx ?_
    obtain ⟨doc_3, h3, hh⟩ := bind_ex hh
    refine awp_first fun K kk hK => ?_
    simp only [go_sem]
    refine step_call2 (diptychlaw2_doc_ok _ _ h3) (by (try simp only [go_sem]) <;> exact wkl) (by rfl) (by rfl) ?_
    simp only [go_sem]
    refine hK _ _ fun nx => ?_; clear hK K; try clear kk
    obtain ⟨head_4, h4, hh⟩ := bind_ex hh
    obtain ⟨h5, hh⟩ := chk_some hh
    refine awp_first fun K kk hK => ?_
    simp only [go_sem, h5]
    (repeat refine sd ?_)
    refine step_call2 (codec_Head_ok _ _ h4) (by (try simp only [go_sem, h5]) <;> exact wkl) (by rfl) (by rfl) ?_
    simp only [go_sem, h5]
    (repeat refine sd ?_)
    refine hK _ _ fun nx => ?_; clear hK K; try clear kk
    refine awp_seq ?_
    refine awp_first fun K kk hK => ?_
    simp only [go_sem]
    refine hK _ _ fun nx => ?_; clear hK K; try clear kk
    obtain ⟨e0, f0, hh⟩ := bind_ex hh
    obtain ⟨hlen0, f0⟩ := chk_some f0
    refine awp_fragE (CutTo (fun s => ∃ s_32, .inr s_32 = e0 ∧ ∃ (i_33 : Int) (v_34 : Bool) (nx : Nat) (g4 : Nat), s = ⟨[(4, .box 4 g4 0), (5, .str s_32), (6, .int .i64 i_33), (25, .bool v_34)], [(4, g4, .var 26 [.str doc_3.Kind, .str doc_3.Text, .list 1 (doc_3.Marks.map PV.str), .list 2 (doc_3.Attrs.map api_Attr.pv), .list 5 (doc_3.Kids.map api_Node.pv)])], nx⟩))
      (fun i s => False)
      (fun s => ∃ res_31, .inl res_31 = e0 ∧ bodyR Tryd.prog [.tmp 2] (.bool res_31) [] .ret s) ?_ ?_ ?_ ?_
    · refine awp_block ?_
      refine awp_loopJ fun I hI => ?_
      have key : ∀ (suf pre : List api_Node) (i_14 : Int) (s_13 : Str), doc_3.Kids = pre ++ suf → i_14 = (pre.length : Int) → diptychlaw2_CodecParts_l0 suf i_14 s_13 = some e0 → ∀ (nx : Nat) (g4 : Nat), I ⟨[(4, .box 4 g4 0), (5, .str s_13), (6, .int .i64 i_14)], [(4, g4, .var 26 [.str doc_3.Kind, .str doc_3.Text, .list 1 (doc_3.Marks.map PV.str), .list 2 (doc_3.Attrs.map api_Attr.pv), .list 5 (doc_3.Kids.map api_Node.pv)])], nx⟩ := by
        intro suf
        induction suf with
        | nil =>
          intro pre i_14 s_13 hsplit hidx hh nx g4
          rw [diptychlaw2_CodecParts_l0] at hh
          refine hI _ ?_
          have h36 := walk_nil hsplit hidx
          refine awp_seq ?_
          refine awp_first fun K kk hK => ?_
          simp only [go_sem]
          refine hK _ _ fun nx => ?_; clear hK K; try clear kk
          refine awp_false (by first | exact congrArg PV.bool h36 | rfl) ?_
          refine awp_exit ?_; refine nmx ?_
          refine fragN ?_
          refine cut_id ?_
          refine ⟨_, (Option.some.inj hh), ?_⟩
          first | exact ⟨_, _, _, _, rfl⟩ | (simp only [api_Attr.pv_eq, api_Node.pv_eq, codec_reader.pv_eq, diptychlaw2_Cell.pv_eq, pvL, List.map_cons, List.map_nil, List.map_append, rune1]; exact ⟨_, _, _, _, rfl⟩) | (simp only [api_Attr.pv_eq, api_Node.pv_eq, codec_reader.pv_eq, diptychlaw2_Cell.pv_eq, pvL, List.map_cons, List.map_nil, List.map_append, rune1, h2, h36]; exact ⟨_, _, _, _, rfl⟩)
        | cons y_23 suf ih =>
          intro pre i_14 s_13 hsplit hidx hh nx g4
          rw [diptychlaw2_CodecParts_l0] at hh
          refine hI _ ?_
          obtain ⟨hl0a, hl0b, hl0d, hl0w, h36⟩ := walk_cons (f := api_Node.pv) hsplit hidx hlen0
          refine awp_seq ?_
          refine awp_first fun K kk hK => ?_
          simp only [go_sem]
          refine hK _ _ fun nx => ?_; clear hK K; try clear kk
          refine awp_true (by first | exact congrArg PV.bool h36 | rfl) ?_
          refine awp_skip ?_; refine nmx ?_
          refine awp_seq ?_
          refine awp_block ?_
          obtain ⟨⟨r_24, r_25⟩, h37, hh⟩ := bind_ex hh
          dsimp only at hh
          refine awp_first fun K kk hK => ?_
          simp only [go_sem, hl0a, hl0b, hl0d, hl0w]
          refine step_call2 (codec_Print_ok _ _ h37) (by (try simp only [go_sem, hl0a, hl0b, hl0d, hl0w]) <;> exact wkl) (by rfl) (by rfl) ?_
          simp only [go_sem, hl0a, hl0b, hl0d, hl0w]
          refine hK _ _ fun nx => ?_; clear hK K; try clear kk
          obtain ⟨⟨r_26, r_27⟩, h38, hh⟩ := bind_ex hh
          dsimp only at hh
          refine awp_first fun K kk hK => ?_
          simp only [go_sem, hl0a, hl0b, hl0d, hl0w]
          refine step_call2 (codec_Parse_ok _ _ h38) (by (try simp only [go_sem, hl0a, hl0b, hl0d, hl0w]) <;> exact wkl) (by rfl) (by rfl) ?_
          simp only [go_sem, hl0a, hl0b, hl0d, hl0w]
          refine hK _ _ fun nx => ?_; clear hK K; try clear kk
          refine awp_seq ?_
          by_cases h39 : (r_25 != (0 : Int)) = true
          · rw [if_pos h39] at hh
            refine awp_first fun K kk hK => ?_
            simp only [go_sem, h39, h39, hl0a, hl0b, hl0d, hl0w]
            (repeat refine sd ?_)
            refine hK _ _ fun nx => ?_; clear hK K; try clear kk
            refine awp_true rfl ?_
            refine awp_first fun K kk hK => ?_
            simp only [go_sem, hl0a, hl0b, hl0d, hl0w]
            refine hK _ _ fun nx => ?_; clear hK K; try clear kk
            refine awp_ret ?_; refine nmx ?_
            refine fragR ⟨_, (Option.some.inj hh), ?_⟩
            exact ret_p2
          · rw [if_neg h39] at hh
            replace h39 := Bool.eq_false_iff.mpr h39
            by_cases h40 : (r_27 != (0 : Int)) = true
            · rw [if_pos h40] at hh
              refine awp_first fun K kk hK => ?_
              simp only [go_sem, h39, h39, h40, h40, hl0a, hl0b, hl0d, hl0w]
              (repeat refine sd ?_)
              refine hK _ _ fun nx => ?_; clear hK K; try clear kk
              refine awp_true rfl ?_
              refine awp_first fun K kk hK => ?_
              simp only [go_sem, hl0a, hl0b, hl0d, hl0w]
              refine hK _ _ fun nx => ?_; clear hK K; try clear kk
              refine awp_ret ?_; refine nmx ?_
              refine fragR ⟨_, (Option.some.inj hh), ?_⟩
              exact ret_p2
            · rw [if_neg h40] at hh
              replace h40 := Bool.eq_false_iff.mpr h40
              obtain ⟨same_28, h41, hh⟩ := bind_ex hh
              refine awp_first fun K kk hK => ?_
              simp only [go_sem, h39, h39, h40, h40, hl0a, hl0b, hl0d, hl0w]
              (repeat refine sd ?_)
              refine step_call2 (node_Same_ok _ _ _ h41) (by (try simp only [go_sem, h39, h39, h40, h40, hl0a, hl0b, hl0d, hl0w]) <;> exact wkl) (by rfl) (by rfl) ?_
              simp only [go_sem, h39, h39, h40, h40, hl0a, hl0b, hl0d, hl0w]
              (repeat refine sd ?_)
              refine hK _ _ fun nx => ?_; clear hK K; try clear kk
              by_cases h42 : (!same_28) = true
              · rw [if_pos h42] at hh
                refine awp_true (by first | exact congrArg PV.bool h42 | rfl) ?_
                refine awp_first fun K kk hK => ?_
                simp only [go_sem, hl0a, hl0b, hl0d, hl0w]
                refine hK _ _ fun nx => ?_; clear hK K; try clear kk
                refine awp_ret ?_; refine nmx ?_
                refine fragR ⟨_, (Option.some.inj hh), ?_⟩
                exact ret_p2
              · rw [if_neg h42] at hh
                replace h42 := Bool.eq_false_iff.mpr h42
                refine awp_false (by first | exact congrArg PV.bool h42 | rfl) ?_
                refine awp_skip ?_; refine nmx ?_
                refine awp_seq ?_
                by_cases h43 : (y_23.Kind == ([116, 101, 120, 116] : Str)) = true
                · rw [if_pos h43] at hh
                  obtain ⟨quote_29, h44, hh⟩ := bind_ex hh
                  obtain ⟨head_30, h45, hh⟩ := bind_ex hh
                  obtain ⟨h46, hh⟩ := chk_some hh
                  refine awp_first fun K kk hK => ?_
                  simp only [go_sem, h43, h46, h43, hl0a, hl0b, hl0d, hl0w]
                  (repeat refine sd ?_)
                  refine step_call2 (codec_Quote_ok _ _ h44) (by (try simp only [go_sem, h43, h46, h43, hl0a, hl0b, hl0d, hl0w]) <;> exact wkl) (by rfl) (by rfl) ?_
                  simp only [go_sem, h43, h46, h43, hl0a, hl0b, hl0d, hl0w]
                  (repeat refine sd ?_)
                  refine step_call2 (codec_Head_ok _ _ h45) (by (try simp only [go_sem, h43, h46, h43, hl0a, hl0b, hl0d, hl0w]) <;> exact wkl) (by rfl) (by rfl) ?_
                  simp only [go_sem, h43, h46, h43, hl0a, hl0b, hl0d, hl0w]
                  (repeat refine sd ?_)
                  refine hK _ _ fun nx => ?_; clear hK K; try clear kk
                  by_cases h47 : (!(r_24 == (quote_29 ++ head_30))) = true
                  · rw [if_pos h47] at hh
                    refine awp_true (by first | exact congrArg PV.bool h47 | rfl) ?_
                    refine awp_first fun K kk hK => ?_
                    simp only [go_sem, hl0a, hl0b, hl0d, hl0w]
                    refine hK _ _ fun nx => ?_; clear hK K; try clear kk
                    refine awp_ret ?_; refine nmx ?_
                    refine fragR ⟨_, (Option.some.inj hh), ?_⟩
                    exact ret_p2
                  · rw [if_neg h47] at hh
                    replace h47 := Bool.eq_false_iff.mpr h47
                    refine awp_false (by first | exact congrArg PV.bool h47 | rfl) ?_
                    refine awp_skip ?_; refine nmx ?_
                    obtain ⟨h48, hh⟩ := chk_some hh
                    refine awp_region fun K kk hK => ?_
                    simp only [go_sem, h48, hl0a, hl0b, hl0d, hl0w]
                    (repeat refine sd ?_)
                    refine hK _ _ fun nx => ?_; clear hK K; try clear kk
                    refine nmx ?_
                    refine awp_region fun K kk hK => ?_
                    simp only [go_sem, hl0a, hl0b, hl0d, hl0w]
                    refine hK _ _ fun nx => ?_; clear hK K; try clear kk
                    refine nmx ?_
                    have ih' := ih (pre ++ [y_23]) (i_14 + 1) _ (by rw [hsplit]; simp) (by simp [hidx]) hh nx
                    refine cut_id ?_
                    first | exact ih' _ | (simp only [api_Attr.pv_eq, api_Node.pv_eq, codec_reader.pv_eq, diptychlaw2_Cell.pv_eq, pvL, List.map_cons, List.map_nil, List.map_append, rune1] at ih' ⊢; exact ih' _) | (simp only [api_Attr.pv_eq, api_Node.pv_eq, codec_reader.pv_eq, diptychlaw2_Cell.pv_eq, pvL, List.map_cons, List.map_nil, List.map_append, rune1, h2, h36, h39, h40, h42, h43, h47] at ih' ⊢; exact ih' _)
                · rw [if_neg h43] at hh
                  replace h43 := Bool.eq_false_iff.mpr h43
                  refine awp_first fun K kk hK => ?_
                  simp only [go_sem, h43, h43, hl0a, hl0b, hl0d, hl0w]
                  (repeat refine sd ?_)
                  refine hK _ _ fun nx => ?_; clear hK K; try clear kk
                  refine awp_false rfl ?_
                  refine awp_skip ?_; refine nmx ?_
                  obtain ⟨h49, hh⟩ := chk_some hh
                  refine awp_region fun K kk hK => ?_
                  simp only [go_sem, h49, hl0a, hl0b, hl0d, hl0w]
                  (repeat refine sd ?_)
                  refine hK _ _ fun nx => ?_; clear hK K; try clear kk
                  refine nmx ?_
                  refine awp_region fun K kk hK => ?_
                  simp only [go_sem, hl0a, hl0b, hl0d, hl0w]
                  refine hK _ _ fun nx => ?_; clear hK K; try clear kk
                  refine nmx ?_
                  have ih' := ih (pre ++ [y_23]) (i_14 + 1) _ (by rw [hsplit]; simp) (by simp [hidx]) hh nx
                  refine cut_id ?_
                  first | exact ih' _ | (simp only [api_Attr.pv_eq, api_Node.pv_eq, codec_reader.pv_eq, diptychlaw2_Cell.pv_eq, pvL, List.map_cons, List.map_nil, List.map_append, rune1] at ih' ⊢; exact ih' _) | (simp only [api_Attr.pv_eq, api_Node.pv_eq, codec_reader.pv_eq, diptychlaw2_Cell.pv_eq, pvL, List.map_cons, List.map_nil, List.map_append, rune1, h2, h36, h39, h40, h42, h43] at ih' ⊢; exact ih' _)
      exact key doc_3.Kids [] _ _ rfl rfl f0 _ _
    · rintro s ⟨t, hless, s_32, rfl, i_33, v_34, nx, g4, rfl⟩
      try dsimp only at hh
      refine nmy ?_
      first | (refine cut_less hless ?_; try refine cut_awp ?_) | refine frag_less hless ?_ | refine body_less hless ?_
      obtain ⟨⟨r_35, r_36⟩, h50, hh⟩ := bind_ex hh
      dsimp only at hh
      refine awp_first fun K kk hK => ?_
      simp only [go_sem]
      refine step_call2 (codec_Print_ok _ _ h50) (by (try simp only [go_sem]) <;> exact wkl) (by rfl) (by rfl) ?_
      simp only [go_sem]
      refine hK _ _ fun nx => ?_; clear hK K; try clear kk
      by_cases h51 : (r_36 == (0 : Int)) = true
      · rw [if_pos h51] at hh
        obtain ⟨h52, hh⟩ := chk_some hh
        refine awp_first fun K kk hK => ?_
        simp only [go_sem, h51, h52, h51]
        (repeat refine sd ?_)
        refine hK _ _ fun nx => ?_; clear hK K; try clear kk
        refine awp_ret ?_; refine nmx ?_
        obtain hR := Option.some.inj hh
        subst hR
        exact ret_p2
      · rw [if_neg h51] at hh
        replace h51 := Bool.eq_false_iff.mpr h51
        refine awp_first fun K kk hK => ?_
        simp only [go_sem, h51, h51]
        (repeat refine sd ?_)
        refine hK _ _ fun nx => ?_; clear hK K; try clear kk
        refine awp_ret ?_; refine nmx ?_
        obtain hR := Option.some.inj hh
        subst hR
        exact ret_p2
    · intro i s h; exact h.elim
    · rintro s ⟨res_31, rfl, hb⟩
      try dsimp only at hh
      obtain hR := Option.some.inj hh
      subst hR
      refine nmx ?_
      exact hb
theorem diptychlaw2_CodecApart_ok (a_1 : (List diptychlaw2_Cell)) (b_2 : (List diptychlaw2_Cell)) (s_3 : Str) (t_4 : Str) (R : Bool) (hh : diptychlaw2_CodecApart a_1 b_2 s_3 t_4 = some R) : PC Tryd.prog 4 [.list 3 (a_1.map diptychlaw2_Cell.pv), .list 3 (b_2.map diptychlaw2_Cell.pv), .str s_3, .str t_4] (.bool R) := by
  rw [diptychlaw2_CodecApart] at hh
  refine start_diptychlaw2_CodecApart rfl ?_
  refine awp_first fun K kk hK => ?_
  simp only [go_sem]
  refine hK _ _ fun nx => ?_; clear hK K; try clear kk
  obtain ⟨shown_5, h1, hh⟩ := bind_ex hh
  refine awp_first fun K kk hK => ?_
  simp only [go_sem]
  refine step_call2 (diptychlaw2_shown_ok _ h1) (by (try simp only [go_sem]) <;> exact wkl) (by rfl) (by rfl) ?_
  simp only [go_sem]
  refine hK _ _ fun nx => ?_; clear hK K; try clear kk
  refine awp_seq ?_
  by_cases h2 : (!shown_5) = true
  · rw [if_pos h2] at hh
    refine awp_first fun K kk hK => ?_
    simp only [go_sem, h2, h2]
    (repeat refine sd ?_)
    refine hK _ _ fun nx => ?_; clear hK K; try clear kk
    refine awp_true rfl ?_
    refine awp_first fun K kk hK => ?_
    simp only [go_sem]
    refine hK _ _ fun nx => ?_; clear hK K; try clear kk
    refine awp_ret ?_; refine nmx ?_
    obtain hR := Option.some.inj hh
    subst hR
    exact ret_p2
  · rw [if_neg h2] at hh
    replace h2 := Bool.eq_false_iff.mpr h2
    by_cases h3 : (decide ((s_3.length : Int) > (500 : Int))) = true
    · rw [if_pos h3] at hh
      refine awp_first fun K kk hK => ?_
      simp only [go_sem, h2, h2, h3, of_decide_eq_true h3, h3, of_decide_eq_true h3]
      (repeat refine sd ?_)
      refine hK _ _ fun nx => ?_; clear hK K; try clear kk
      refine awp_true rfl ?_
      refine awp_first fun K kk hK => ?_
      simp only [go_sem]
      refine hK _ _ fun nx => ?_; clear hK K; try clear kk
      refine awp_ret ?_; refine nmx ?_
      obtain hR := Option.some.inj hh
      subst hR
      exact ret_p2
    · rw [if_neg h3] at hh
      replace h3 := Bool.eq_false_iff.mpr h3
      refine awp_first fun K kk hK => ?_
      simp only [go_sem, h2, h2, h3, of_decide_eq_false h3, h3, of_decide_eq_false h3]
      (repeat refine sd ?_)
      refine hK _ _ fun nx => ?_; clear hK K; try clear kk
      by_cases h4 : (decide ((t_4.length : Int) > (500 : Int))) = true
      · rw [if_pos h4] at hh
        refine awp_true (by first | exact congrArg PV.bool h4 | rfl) ?_
        refine awp_first fun K kk hK => ?_
        simp only [go_sem]
        refine hK _ _ fun nx => ?_; clear hK K; try clear kk
        refine awp_ret ?_; refine nmx ?_
        obtain hR := Option.some.inj hh
        subst hR
        exact ret_p2
      · rw [if_neg h4] at hh
        replace h4 := Bool.eq_false_iff.mpr h4
        refine awp_false (by first | exact congrArg PV.bool h4 | rfl) ?_
        refine awp_skip ?_; refine nmx ?_
        obtain ⟨doc_6, h5, hh⟩ := bind_ex hh
        obtain ⟨⟨r_7, r_8⟩, h6, hh⟩ := bind_ex hh
        dsimp only at hh
        refine awp_first fun K kk hK => ?_
        simp only [go_sem]
        refine step_call2 (diptychlaw2_doc_ok _ _ h5) (by (try simp only [go_sem]) <;> exact wkl) (by rfl) (by rfl) ?_
        simp only [go_sem]
        refine step_call2 (codec_Print_ok _ _ h6) (by (try simp only [go_sem]) <;> exact wkl) (by rfl) (by rfl) ?_
        simp only [go_sem]
        refine hK _ _ fun nx => ?_; clear hK K; try clear kk
        obtain ⟨doc_9, h7, hh⟩ := bind_ex hh
        obtain ⟨⟨r_10, r_11⟩, h8, hh⟩ := bind_ex hh
        dsimp only at hh
        refine awp_first fun K kk hK => ?_
        simp only [go_sem]
        refine step_call2 (diptychlaw2_doc_ok _ _ h7) (by (try simp only [go_sem]) <;> exact wkl) (by rfl) (by rfl) ?_
        simp only [go_sem]
        refine step_call2 (codec_Print_ok _ _ h8) (by (try simp only [go_sem]) <;> exact wkl) (by rfl) (by rfl) ?_
        simp only [go_sem]
        refine hK _ _ fun nx => ?_; clear hK K; try clear kk
        obtain ⟨quote_12, h9, hh⟩ := bind_ex hh
        refine awp_first fun K kk hK => ?_
        simp only [go_sem]
        refine step_call2 (codec_Quote_ok _ _ h9) (by (try simp only [go_sem]) <;> exact wkl) (by rfl) (by rfl) ?_
        simp only [go_sem]
        refine hK _ _ fun nx => ?_; clear hK K; try clear kk
        refine awp_seq ?_
        by_cases h10 : (r_8 != (0 : Int)) = true
        · rw [if_pos h10] at hh
          refine awp_first fun K kk hK => ?_
          simp only [go_sem, h10, h10]
          (repeat refine sd ?_)
          refine hK _ _ fun nx => ?_; clear hK K; try clear kk
          refine awp_true rfl ?_
          refine awp_first fun K kk hK => ?_
          simp only [go_sem]
          refine hK _ _ fun nx => ?_; clear hK K; try clear kk
          refine awp_ret ?_; refine nmx ?_
          obtain hR := Option.some.inj hh
          subst hR
          exact ret_p2
        · rw [if_neg h10] at hh
          replace h10 := Bool.eq_false_iff.mpr h10
          by_cases h11 : (r_11 != (0 : Int)) = true
          · rw [if_pos h11] at hh
            refine awp_first fun K kk hK => ?_
            simp only [go_sem, h10, h10, h11, h11]
            (repeat refine sd ?_)
            refine hK _ _ fun nx => ?_; clear hK K; try clear kk
            refine awp_true rfl ?_
            refine awp_first fun K kk hK => ?_
            simp only [go_sem]
            refine hK _ _ fun nx => ?_; clear hK K; try clear kk
            refine awp_ret ?_; refine nmx ?_
            obtain hR := Option.some.inj hh
            subst hR
            exact ret_p2
          · rw [if_neg h11] at hh
            replace h11 := Bool.eq_false_iff.mpr h11
            obtain ⟨doc_13, h12, hh⟩ := bind_ex hh
            obtain ⟨doc_14, h13, hh⟩ := bind_ex hh
            obtain ⟨same_15, h14, hh⟩ := bind_ex hh
            by_cases h15 : ((((r_7 == r_10) == same_15) != true)) = true
            · rw [if_pos h15] at hh
              refine awp_first fun K kk hK => ?_
              simp only [go_sem, h10, h10, h11, h11, h15, h15]
              (repeat refine sd ?_)
              refine step_call2 (diptychlaw2_doc_ok _ _ h12) (by (try simp only [go_sem, h10, h10, h11, h11, h15, h15]) <;> exact wkl) (by rfl) (by rfl) ?_
              simp only [go_sem, h10, h10, h11, h11, h15, h15]
              (repeat refine sd ?_)
              refine step_call2 (diptychlaw2_doc_ok _ _ h13) (by (try simp only [go_sem, h10, h10, h11, h11, h15, h15]) <;> exact wkl) (by rfl) (by rfl) ?_
              simp only [go_sem, h10, h10, h11, h11, h15, h15]
              (repeat refine sd ?_)
              refine step_call2 (node_Same_ok _ _ _ h14) (by (try simp only [go_sem, h10, h10, h11, h11, h15, h15]) <;> exact wkl) (by rfl) (by rfl) ?_
              simp only [go_sem, h10, h10, h11, h11, h15, h15]
              (repeat refine sd ?_)
              refine hK _ _ fun nx => ?_; clear hK K; try clear kk
              refine awp_true rfl ?_
              refine awp_first fun K kk hK => ?_
              simp only [go_sem]
              refine hK _ _ fun nx => ?_; clear hK K; try clear kk
              refine awp_ret ?_; refine nmx ?_
              obtain hR := Option.some.inj hh
              subst hR
              exact ret_p2
            · rw [if_neg h15] at hh
              replace h15 := Bool.eq_false_iff.mpr h15
              obtain ⟨quote_16, h16, hh⟩ := bind_ex hh
              by_cases h17 : ((((quote_12 == quote_16) == (s_3 == t_4)) != true)) = true
              · rw [if_pos h17] at hh
                refine awp_first fun K kk hK => ?_
                simp only [go_sem, h10, h10, h11, h11, h15, h15, h17, h17]
                (repeat refine sd ?_)
                refine step_call2 (diptychlaw2_doc_ok _ _ h12) (by (try simp only [go_sem, h10, h10, h11, h11, h15, h15, h17, h17]) <;> exact wkl) (by rfl) (by rfl) ?_
                simp only [go_sem, h10, h10, h11, h11, h15, h15, h17, h17]
                (repeat refine sd ?_)
                refine step_call2 (diptychlaw2_doc_ok _ _ h13) (by (try simp only [go_sem, h10, h10, h11, h11, h15, h15, h17, h17]) <;> exact wkl) (by rfl) (by rfl) ?_
                simp only [go_sem, h10, h10, h11, h11, h15, h15, h17, h17]
                (repeat refine sd ?_)
                refine step_call2 (node_Same_ok _ _ _ h14) (by (try simp only [go_sem, h10, h10, h11, h11, h15, h15, h17, h17]) <;> exact wkl) (by rfl) (by rfl) ?_
                simp only [go_sem, h10, h10, h11, h11, h15, h15, h17, h17]
                (repeat refine sd ?_)
                refine step_call2 (codec_Quote_ok _ _ h16) (by (try simp only [go_sem, h10, h10, h11, h11, h15, h15, h17, h17]) <;> exact wkl) (by rfl) (by rfl) ?_
                simp only [go_sem, h10, h10, h11, h11, h15, h15, h17, h17]
                (repeat refine sd ?_)
                refine hK _ _ fun nx => ?_; clear hK K; try clear kk
                refine awp_true rfl ?_
                refine awp_first fun K kk hK => ?_
                simp only [go_sem]
                refine hK _ _ fun nx => ?_; clear hK K; try clear kk
                refine awp_ret ?_; refine nmx ?_
                obtain hR := Option.some.inj hh
                subst hR
                exact ret_p2
              · rw [if_neg h17] at hh
                replace h17 := Bool.eq_false_iff.mpr h17
                refine awp_first fun K kk hK => ?_
                simp only [go_sem, h10, h10, h11, h11, h15, h15, h17, h17]
                (repeat refine sd ?_)
                refine step_call2 (diptychlaw2_doc_ok _ _ h12) (by (try simp only [go_sem, h10, h10, h11, h11, h15, h15, h17, h17]) <;> exact wkl) (by rfl) (by rfl) ?_
                simp only [go_sem, h10, h10, h11, h11, h15, h15, h17, h17]
                (repeat refine sd ?_)
                refine step_call2 (diptychlaw2_doc_ok _ _ h13) (by (try simp only [go_sem, h10, h10, h11, h11, h15, h15, h17, h17]) <;> exact wkl) (by rfl) (by rfl) ?_
                simp only [go_sem, h10, h10, h11, h11, h15, h15, h17, h17]
                (repeat refine sd ?_)
                refine step_call2 (node_Same_ok _ _ _ h14) (by (try simp only [go_sem, h10, h10, h11, h11, h15, h15, h17, h17]) <;> exact wkl) (by rfl) (by rfl) ?_
                simp only [go_sem, h10, h10, h11, h11, h15, h15, h17, h17]
                (repeat refine sd ?_)
                refine step_call2 (codec_Quote_ok _ _ h16) (by (try simp only [go_sem, h10, h10, h11, h11, h15, h15, h17, h17]) <;> exact wkl) (by rfl) (by rfl) ?_
                simp only [go_sem, h10, h10, h11, h11, h15, h15, h17, h17]
                (repeat refine sd ?_)
                refine hK _ _ fun nx => ?_; clear hK K; try clear kk
                by_cases h18 : (decide ((quote_12.length : Int) < (w64 ((s_3.length : Int) + (2 : Int))))) = true
                · rw [if_pos h18] at hh
                  refine awp_true (by first | exact congrArg PV.bool h18 | rfl) ?_
                  refine awp_first fun K kk hK => ?_
                  simp only [go_sem]
                  refine hK _ _ fun nx => ?_; clear hK K; try clear kk
                  refine awp_ret ?_; refine nmx ?_
                  obtain hR := Option.some.inj hh
                  subst hR
                  exact ret_p2
                · rw [if_neg h18] at hh
                  replace h18 := Bool.eq_false_iff.mpr h18
                  refine awp_false (by first | exact congrArg PV.bool h18 | rfl) ?_
                  refine awp_skip ?_; refine nmx ?_
                  refine awp_first fun K kk hK => ?_
                  simp only [go_sem]
                  refine hK _ _ fun nx => ?_; clear hK K; try clear kk
                  refine awp_seq ?_
                  obtain ⟨e0, f0, hh⟩ := bind_ex hh
                  refine awp_frag (fun s => ∃ at_19, .inr at_19 = e0 ∧ ∃ (v_20 : Bool) (nx : Nat), s = ⟨[(14, .str quote_12), (15, .int .i64 at_19), (83, .bool v_20)], [], nx⟩)
                    (fun i s => False)
                    (fun s => ∃ res_18, .inl res_18 = e0 ∧ bodyR Tryd.prog [.tmp 8] (.bool res_18) [] .ret s) ?_ ?_ ?_ ?_
                  · refine awp_block ?_
                    refine awp_loopJ fun I hI => ?_
                    obtain ⟨k, f0⟩ := lim_some f0
                    have key : ∀ (k : Nat) (at_17 : Int), diptychlaw2_CodecApart_l0 quote_12 k at_17 = some e0 → ∀ (nx : Nat), I ⟨[(14, .str quote_12), (15, .int .i64 at_17)], [], nx⟩ := by
                      intro k
                      induction k with
                      | zero => intro at_17 hh; rw [diptychlaw2_CodecApart_l0] at hh; cases hh
                      | succ k ih =>
                        intro at_17 hh nx
                        rw [diptychlaw2_CodecApart_l0] at hh
                        refine hI _ ?_
                        refine awp_seq ?_
                        refine awp_first fun K kk hK => ?_
                        simp only [go_sem]
                        refine hK _ _ fun nx => ?_; clear hK K; try clear kk
                        by_cases h24 : (decide (at_17 < (w64 ((quote_12.length : Int) - (1 : Int))))) = true
                        · rw [if_pos h24] at hh
                          refine awp_true (by first | exact congrArg PV.bool h24 | rfl) ?_
                          refine awp_skip ?_; refine nmx ?_
                          refine awp_block ?_
                          refine awp_seq ?_
                          obtain ⟨h25, hh⟩ := chk_some hh
                          refine awp_first fun K kk hK => ?_
                          simp only [go_sem, h25.1, h25.2]
                          (repeat refine sd ?_)
                          refine hK _ _ fun nx => ?_; clear hK K; try clear kk
                          by_cases h26 : (((quote_12.getD at_17.toNat 0).toNat : Int) == (34 : Int)) = true
                          · rw [if_pos h26] at hh
                            refine awp_true (by first | exact congrArg PV.bool h26 | rfl) ?_
                            refine awp_first fun K kk hK => ?_
                            simp only [go_sem]
                            refine hK _ _ fun nx => ?_; clear hK K; try clear kk
                            refine awp_ret ?_; refine nmx ?_
                            refine fragR ⟨_, (Option.some.inj hh), ?_⟩
                            exact ret_p2
                          · rw [if_neg h26] at hh
                            replace h26 := Bool.eq_false_iff.mpr h26
                            refine awp_false (by first | exact congrArg PV.bool h26 | rfl) ?_
                            refine awp_skip ?_; refine nmx ?_
                            refine awp_seq ?_
                            obtain ⟨h27, hh⟩ := chk_some hh
                            refine awp_first fun K kk hK => ?_
                            simp only [go_sem, h27.1, h27.2]
                            (repeat refine sd ?_)
                            refine hK _ _ fun nx => ?_; clear hK K; try clear kk
                            by_cases h28 : (((quote_12.getD at_17.toNat 0).toNat : Int) == (92 : Int)) = true
                            · rw [if_pos h28] at hh
                              refine awp_true (by first | exact congrArg PV.bool h28 | rfl) ?_
                              refine awp_region fun K kk hK => ?_
                              simp only [go_sem]
                              refine hK _ _ fun nx => ?_; clear hK K; try clear kk
                              refine nmx ?_
                              refine awp_region fun K kk hK => ?_
                              simp only [go_sem]
                              refine hK _ _ fun nx => ?_; clear hK K; try clear kk
                              refine nmx ?_
                              have ih' := ih _ hh nx
                              refine cut_id ?_
                              first | exact ih' | (simp only [api_Attr.pv_eq, api_Node.pv_eq, codec_reader.pv_eq, diptychlaw2_Cell.pv_eq, pvL, List.map_cons, List.map_nil, List.map_append, rune1] at ih' ⊢; exact ih') | (simp only [api_Attr.pv_eq, api_Node.pv_eq, codec_reader.pv_eq, diptychlaw2_Cell.pv_eq, pvL, List.map_cons, List.map_nil, List.map_append, rune1, h10, h11, h15, h17, h18, h2, h24, h26, h28, h3, h4] at ih' ⊢; exact ih')
                            · rw [if_neg h28] at hh
                              replace h28 := Bool.eq_false_iff.mpr h28
                              refine awp_false (by first | exact congrArg PV.bool h28 | rfl) ?_
                              refine awp_skip ?_; refine nmx ?_
                              refine awp_region fun K kk hK => ?_
                              simp only [go_sem]
                              refine hK _ _ fun nx => ?_; clear hK K; try clear kk
                              refine nmx ?_
                              have ih' := ih _ hh nx
                              refine cut_id ?_
                              first | exact ih' | (simp only [api_Attr.pv_eq, api_Node.pv_eq, codec_reader.pv_eq, diptychlaw2_Cell.pv_eq, pvL, List.map_cons, List.map_nil, List.map_append, rune1] at ih' ⊢; exact ih') | (simp only [api_Attr.pv_eq, api_Node.pv_eq, codec_reader.pv_eq, diptychlaw2_Cell.pv_eq, pvL, List.map_cons, List.map_nil, List.map_append, rune1, h10, h11, h15, h17, h18, h2, h24, h26, h28, h3, h4] at ih' ⊢; exact ih')
                        · rw [if_neg h24] at hh
                          replace h24 := Bool.eq_false_iff.mpr h24
                          refine awp_false (by first | exact congrArg PV.bool h24 | rfl) ?_
                          refine awp_exit ?_; refine nmx ?_
                          refine fragN ?_
                          refine cut_id ?_
                          refine ⟨_, (Option.some.inj hh), ?_⟩
                          first | exact ⟨_, _, rfl⟩ | (simp only [api_Attr.pv_eq, api_Node.pv_eq, codec_reader.pv_eq, diptychlaw2_Cell.pv_eq, pvL, List.map_cons, List.map_nil, List.map_append, rune1]; exact ⟨_, _, rfl⟩) | (simp only [api_Attr.pv_eq, api_Node.pv_eq, codec_reader.pv_eq, diptychlaw2_Cell.pv_eq, pvL, List.map_cons, List.map_nil, List.map_append, rune1, h10, h11, h15, h17, h18, h2, h24, h3, h4]; exact ⟨_, _, rfl⟩)
                    exact key _ _ f0 _
                  · rintro s ⟨at_19, rfl, v_20, nx, rfl⟩
                    try dsimp only at hh
                    by_cases h29 : (at_19 == (w64 ((quote_12.length : Int) - (1 : Int)))) = true
                    · rw [if_pos h29] at hh
                      obtain ⟨h30, hh⟩ := chk_some hh
                      by_cases h31 : (((quote_12.getD (0 : Int).toNat 0).toNat : Int) == (34 : Int)) = true
                      · rw [if_pos h31] at hh
                        try simp only [Int.reduceToNat] at h31
                        obtain ⟨h32, hh⟩ := chk_some hh
                        refine awp_first fun K kk hK => ?_
                        simp only [go_sem, h29, h30.1, h30.2, h29, h31, h32.1, h32.2, h31]
                        (repeat refine sd ?_)
                        refine hK _ _ fun nx => ?_; clear hK K; try clear kk
                        refine awp_ret ?_; refine nmx ?_
                        obtain hR := Option.some.inj hh
                        subst hR
                        exact ret_p2
                      · rw [if_neg h31] at hh
                        replace h31 := Bool.eq_false_iff.mpr h31
                        try simp only [Int.reduceToNat] at h31
                        refine awp_first fun K kk hK => ?_
                        simp only [go_sem, h29, h30.1, h30.2, h29, h31, h31]
                        (repeat refine sd ?_)
                        refine hK _ _ fun nx => ?_; clear hK K; try clear kk
                        refine awp_ret ?_; refine nmx ?_
                        obtain hR := Option.some.inj hh
                        subst hR
                        exact ret_p2
                    · rw [if_neg h29] at hh
                      replace h29 := Bool.eq_false_iff.mpr h29
                      refine awp_first fun K kk hK => ?_
                      simp only [go_sem, h29, h29]
                      (repeat refine sd ?_)
                      refine hK _ _ fun nx => ?_; clear hK K; try clear kk
                      refine awp_ret ?_; refine nmx ?_
                      obtain hR := Option.some.inj hh
                      subst hR
                      exact ret_p2
                  · intro i s h; exact h.elim
                  · rintro s ⟨res_18, rfl, hb⟩
                    try dsimp only at hh
                    obtain hR := Option.some.inj hh
                    subst hR
                    refine nmx ?_
                    exact hb

end Go.Proofs.YtihndopckmdpbaaDoor
