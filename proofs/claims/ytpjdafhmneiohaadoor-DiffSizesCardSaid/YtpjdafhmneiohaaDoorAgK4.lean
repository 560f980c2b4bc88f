/- What the functions answer, the program answers (4). -/
import Derived.Test.YtpjdafhmneiohaaDoorAgC
import Derived.Test.YtpjdafhmneiohaaDoorAgF
import Derived.Test.YtpjdafhmneiohaaDoorAgK0
import Derived.Test.YtpjdafhmneiohaaDoorAgK3
namespace Go.Proofs.YtpjdafhmneiohaaDoor
set_option linter.unusedSimpArgs false
set_option linter.unusedVariables false
open Go
set_option maxRecDepth 100000

theorem diptychlaw18_doc_ok (l_1 : (List diptychlaw18_Cell)) (R : api_Node) (hh : diptychlaw18_doc l_1 = some R) : PC Tryd.prog 19 [.list 4 (l_1.map diptychlaw18_Cell.pv)] (.agg [.str R.Kind, .str R.Text, .list 1 (R.Marks.map PV.str), .list 2 (R.Attrs.map api_Attr.pv), .list 5 (R.Kids.map api_Node.pv)]) := by
  rw [diptychlaw18_doc] at hh
  refine start_diptychlaw18_doc rfl ?_
  refine awp_first fun K kk hK => ?_
  simp only [go_sem]
  refine hK _ _ fun nx => ?_; clear hK K; try clear kk
  refine awp_first fun K kk hK => ?_
  simp only [go_sem]
  refine hK _ _ fun nx => ?_; clear hK K; try clear kk
  refine awp_first fun K kk hK => ?_
  simp only [go_sem]
  refine hK _ _ fun nx => ?_; clear hK K; try clear kk
  refine awp_first fun K kk hK => ?_
  simp only [go_sem]
  refine hK _ _ fun nx => ?_; clear hK K; try clear kk
  refine awp_seq ?_
  refine awp_first fun K kk hK => ?_
  simp only [go_sem]
  refine hK _ _ fun nx => ?_; clear hK K; try clear kk
  obtain ⟨e0, f0, hh⟩ := bind_ex hh
  obtain ⟨hlen0, f0⟩ := chk_some f0
  refine awp_fragE (CutTo (fun s => ∃ v_98, v_98 = e0 ∧ ∃ (i_95 : Int) (v_96 : Bool) (texts_97 : (List api_Node)) (nx : Nat) (g2 : Nat) (g3 : Nat) (g4 : Nat) (g5 : Nat) (g332 : Nat), s = ⟨[(0, .list 4 (l_1.map diptychlaw18_Cell.pv)), (2, .box 2 g2 0), (3, .row 3 g3 [([97] : Str), ([98, 99] : Str), ([195, 169] : Str), ([120, 32, 121] : Str), ([230, 151, 165, 230, 156, 172] : Str)].length), (4, .box 4 g4 0), (5, .row 5 g5 texts_97.length), (6, .int .i64 i_95), (22, .bool v_96)], [(2, g2, .var 28 [.str ([] : Str), .str ([] : Str), .list 1 ([].map PV.str), .list 2 ([].map api_Attr.pv), .list 5 ([].map api_Node.pv)]), (3, g3, .row false 1 ([([97] : Str), ([98, 99] : Str), ([195, 169] : Str), ([120, 32, 121] : Str), ([230, 151, 165, 230, 156, 172] : Str)].map PV.str)), (4, g4, .var 28 [.str ([100, 111, 99] : Str), .str ([] : Str), .list 1 ([].map PV.str), .list 2 ([].map api_Attr.pv), .row 332 g332 v_98.length]), (5, g5, .row false 5 (texts_97.map api_Node.pv)), (332, g332, .row false 5 (v_98.map api_Node.pv))], nx⟩))
    (fun i s => False)
    (fun s => False) ?_ ?_ ?_ ?_
  · refine awp_block ?_
    refine awp_loopJ fun I hI => ?_
    have key : ∀ (suf pre : List diptychlaw18_Cell) (i_32 : Int) (texts_33 : (List api_Node)) (v_34 : (List api_Node)), l_1 = pre ++ suf → i_32 = (pre.length : Int) → diptychlaw18_doc_l0 suf i_32 texts_33 v_34 = some e0 → ∀ (nx : Nat) (g2 : Nat) (g3 : Nat) (g4 : Nat) (g5 : Nat) (g332 : Nat), I ⟨[(0, .list 4 (l_1.map diptychlaw18_Cell.pv)), (2, .box 2 g2 0), (3, .row 3 g3 [([97] : Str), ([98, 99] : Str), ([195, 169] : Str), ([120, 32, 121] : Str), ([230, 151, 165, 230, 156, 172] : Str)].length), (4, .box 4 g4 0), (5, .row 5 g5 texts_33.length), (6, .int .i64 i_32)], [(2, g2, .var 28 [.str ([] : Str), .str ([] : Str), .list 1 ([].map PV.str), .list 2 ([].map api_Attr.pv), .list 5 ([].map api_Node.pv)]), (3, g3, .row false 1 ([([97] : Str), ([98, 99] : Str), ([195, 169] : Str), ([120, 32, 121] : Str), ([230, 151, 165, 230, 156, 172] : Str)].map PV.str)), (4, g4, .var 28 [.str ([100, 111, 99] : Str), .str ([] : Str), .list 1 ([].map PV.str), .list 2 ([].map api_Attr.pv), .row 332 g332 v_34.length]), (5, g5, .row false 5 (texts_33.map api_Node.pv)), (332, g332, .row false 5 (v_34.map api_Node.pv))], nx⟩ := by
      intro suf
      induction suf with
      | nil =>
        intro pre i_32 texts_33 v_34 hsplit hidx hh nx g2 g3 g4 g5 g332
        rw [diptychlaw18_doc_l0] at hh
        refine hI _ ?_
        have h77 := walk_nil hsplit hidx
        refine awp_seq ?_
        refine awp_first fun K kk hK => ?_
        simp only [go_sem, h77, of_decide_eq_false h77, h77, of_decide_eq_false h77]
        (repeat refine sd ?_)
        refine hK _ _ fun nx => ?_; clear hK K; try clear kk
        refine awp_false rfl ?_
        refine awp_exit ?_; refine nmx ?_
        refine fragN ?_
        refine cut_id ?_
        refine ⟨_, (Option.some.inj hh), ?_⟩
        first | exact ⟨_, _, _, _, _, _, _, _, _, rfl⟩ | (simp only [diptychlaw18_Cell.pv_eq, api_Attr.pv_eq, api_Node.pv_eq, step_Step.pv_eq, diff_change.pv_eq, maps_Range.pv_eq, pvL, List.map_cons, List.map_nil, List.map_append, rune1]; exact ⟨_, _, _, _, _, _, _, _, _, rfl⟩) | (simp only [diptychlaw18_Cell.pv_eq, api_Attr.pv_eq, api_Node.pv_eq, step_Step.pv_eq, diff_change.pv_eq, maps_Range.pv_eq, pvL, List.map_cons, List.map_nil, List.map_append, rune1, h77]; exact ⟨_, _, _, _, _, _, _, _, _, rfl⟩)
      | cons y_65 suf ih =>
        intro pre i_32 texts_33 v_34 hsplit hidx hh nx g2 g3 g4 g5 g332
        rw [diptychlaw18_doc_l0] at hh
        refine hI _ ?_
        obtain ⟨hl0a, hl0b, hl0d, hl0w, h77⟩ := walk_cons (f := diptychlaw18_Cell.pv) hsplit hidx hlen0
        refine awp_seq ?_
        refine awp_first fun K kk hK => ?_
        simp only [go_sem, h77, of_decide_eq_true h77, h77, of_decide_eq_true h77, hl0a, hl0b, hl0d, hl0w]
        (repeat refine sd ?_)
        refine hK _ _ fun nx => ?_; clear hK K; try clear kk
        by_cases h78 : (decide (i_32 < (40 : Int))) = true
        · rw [if_pos h78] at hh
          refine awp_true (by first | exact congrArg PV.bool h78 | rfl) ?_
          refine awp_skip ?_; refine nmx ?_
          refine awp_seq ?_
          refine awp_block ?_
          obtain ⟨pick_66, h79, hh⟩ := bind_ex hh
          obtain ⟨x_67, h80, hh⟩ := bind_ex hh
          obtain ⟨h80a, h80b, h80c⟩ := rd_some h80
          have h80d := rd_get (f := PV.str) h80c
          have h80f := rd_more (f := PV.str) h80c
          try simp only [Int.toNat_natCast, Int.reduceToNat] at h80d h80f
          simp only [List.length_cons, List.length_nil, List.map_cons, List.map_nil, Nat.zero_add, Nat.reduceAdd, reduceCtorEq, not_false_eq_true, and_true, diptychlaw18_Cell.pv_eq, api_Attr.pv_eq, api_Node.pv_eq, step_Step.pv_eq, diff_change.pv_eq, maps_Range.pv_eq, pvL] at h80b h80d h80f
          refine awp_first fun K kk hK => ?_
          simp only [go_sem, h80a, h80b, h80d, h80f, hl0a, hl0b, hl0d, hl0w]
          (repeat refine sd ?_)
          refine step_call2 (diptychlaw18_pick_ok _ _ _ h79) (by (try simp only [go_sem, h80a, h80b, h80d, h80f, hl0a, hl0b, hl0d, hl0w]) <;> exact wkl) (by rfl) (by rfl) ?_
          simp only [go_sem, h80a, h80b, h80d, h80f, hl0a, hl0b, hl0d, hl0w]
          (repeat refine sd ?_)
          refine hK _ _ fun nx => ?_; clear hK K; try clear kk
          refine awp_seq ?_
          obtain ⟨e7, f7, hh⟩ := bind_ex hh
          refine awp_frag (fun s => ∃ v_70, v_70 = e7 ∧ ∃ (nx : Nat) (g2 : Nat) (g3 : Nat) (g4 : Nat) (g5 : Nat) (g7 : Nat) (g332 : Nat) (g351 : Nat), s = ⟨[(0, .list 4 (l_1.map diptychlaw18_Cell.pv)), (2, .box 2 g2 0), (3, .row 3 g3 [([97] : Str), ([98, 99] : Str), ([195, 169] : Str), ([120, 32, 121] : Str), ([230, 151, 165, 230, 156, 172] : Str)].length), (4, .box 4 g4 0), (5, .row 5 g5 texts_33.length), (6, .int .i64 i_32), (7, .box 7 g7 0)], [(2, g2, .var 28 [.str ([] : Str), .str ([] : Str), .list 1 ([].map PV.str), .list 2 ([].map api_Attr.pv), .list 5 ([].map api_Node.pv)]), (3, g3, .row false 1 ([([97] : Str), ([98, 99] : Str), ([195, 169] : Str), ([120, 32, 121] : Str), ([230, 151, 165, 230, 156, 172] : Str)].map PV.str)), (4, g4, .var 28 [.str ([100, 111, 99] : Str), .str ([] : Str), .list 1 ([].map PV.str), .list 2 ([].map api_Attr.pv), .row 332 g332 v_34.length]), (5, g5, .row false 5 (texts_33.map api_Node.pv)), (7, g7, .var 28 [.str ([116, 101, 120, 116] : Str), .str x_67, .row 351 g351 v_70.length, .list 2 ([].map api_Attr.pv), .list 5 ([].map api_Node.pv)]), (332, g332, .row false 5 (v_34.map api_Node.pv)), (351, g351, .row false 1 (v_70.map PV.str))], nx⟩)
            (fun i s => False)
            (fun s => False) ?_ ?_ ?_ ?_
          · have hh := f7
            obtain ⟨pick_68, h81, hh⟩ := bind_ex hh
            refine awp_first fun K kk hK => ?_
            simp only [go_sem, hl0a, hl0b, hl0d, hl0w]
            refine step_call2 (diptychlaw18_pick_ok _ _ _ h81) (by (try simp only [go_sem, hl0a, hl0b, hl0d, hl0w]) <;> exact wkl) (by rfl) (by rfl) ?_
            simp only [go_sem, hl0a, hl0b, hl0d, hl0w]
            refine hK _ _ fun nx => ?_; clear hK K; try clear kk
            by_cases h82 : ((and64 pick_68 (1 : Int)) == (1 : Int)) = true
            · rw [if_pos h82] at hh
              refine awp_true (by first | exact congrArg PV.bool h82 | rfl) ?_
              obtain ⟨l_69, h83, hh⟩ := bind_ex hh
              obtain ⟨h83a, h83c⟩ := app_some h83
              have h83d := app_map (f := PV.str) h83c
              have h83e := (app_len h83c).symm
              try simp only [List.length_cons, List.length_nil, Nat.zero_add, Nat.reduceAdd] at h83a h83e
              try simp only [List.map_cons, List.map_nil, List.nil_append, List.append_nil, List.cons_append, List.singleton_append, rune1, diptychlaw18_Cell.pv_eq, api_Attr.pv_eq, api_Node.pv_eq, step_Step.pv_eq, diff_change.pv_eq, maps_Range.pv_eq, pvL] at h83d
              have h83g := take_lit (f := PV.str) h83e
              refine awp_region fun K kk hK => ?_
              simp only [go_sem, h83a, h83d, eq_true h83e, eq_true (Nat.le_of_eq h83e.symm), h83g, hl0a, hl0b, hl0d, hl0w]
              (repeat refine sd ?_)
              refine hK _ _ fun nx => ?_; clear hK K; try clear kk
              refine nmx ?_
              refine fragN ?_
              refine cut_id ?_
              refine ⟨_, (Option.some.inj hh), ?_⟩
              first | exact ⟨_, _, _, _, _, _, _, _, rfl⟩ | (simp only [diptychlaw18_Cell.pv_eq, api_Attr.pv_eq, api_Node.pv_eq, step_Step.pv_eq, diff_change.pv_eq, maps_Range.pv_eq, pvL, List.map_cons, List.map_nil, List.map_append, rune1, h83e]; exact ⟨_, _, _, _, _, _, _, _, rfl⟩) | (simp only [diptychlaw18_Cell.pv_eq, api_Attr.pv_eq, api_Node.pv_eq, step_Step.pv_eq, diff_change.pv_eq, maps_Range.pv_eq, pvL, List.map_cons, List.map_nil, List.map_append, rune1, h83e, h77, h78, h82]; exact ⟨_, _, _, _, _, _, _, _, rfl⟩)
            · rw [if_neg h82] at hh
              replace h82 := Bool.eq_false_iff.mpr h82
              refine awp_false (by first | exact congrArg PV.bool h82 | rfl) ?_
              refine awp_skip ?_; refine nmx ?_
              refine fragN ?_
              refine cut_to (less_cut _ [0, 2, 3, 4, 5, 6, 7] [2, 3, 4, 5, 7, 332, 351]) ?_
              refine ⟨_, (Option.some.inj hh), ?_⟩
              first | exact ⟨_, _, _, _, _, _, _, _, rfl⟩ | (simp only [diptychlaw18_Cell.pv_eq, api_Attr.pv_eq, api_Node.pv_eq, step_Step.pv_eq, diff_change.pv_eq, maps_Range.pv_eq, pvL, List.map_cons, List.map_nil, List.map_append, rune1]; exact ⟨_, _, _, _, _, _, _, _, rfl⟩) | (simp only [diptychlaw18_Cell.pv_eq, api_Attr.pv_eq, api_Node.pv_eq, step_Step.pv_eq, diff_change.pv_eq, maps_Range.pv_eq, pvL, List.map_cons, List.map_nil, List.map_append, rune1, h77, h78, h82]; exact ⟨_, _, _, _, _, _, _, _, rfl⟩)
          · rintro s ⟨v_70, rfl, nx, g2, g3, g4, g5, g7, g332, g351, rfl⟩
            try dsimp only at hh
            refine awp_seq ?_
            obtain ⟨e8, f8, hh⟩ := bind_ex hh
            refine awp_frag (fun s => ∃ v_73, v_73 = e8 ∧ ∃ (nx : Nat) (g2 : Nat) (g3 : Nat) (g4 : Nat) (g5 : Nat) (g7 : Nat) (g332 : Nat) (g351 : Nat), s = ⟨[(0, .list 4 (l_1.map diptychlaw18_Cell.pv)), (2, .box 2 g2 0), (3, .row 3 g3 [([97] : Str), ([98, 99] : Str), ([195, 169] : Str), ([120, 32, 121] : Str), ([230, 151, 165, 230, 156, 172] : Str)].length), (4, .box 4 g4 0), (5, .row 5 g5 texts_33.length), (6, .int .i64 i_32), (7, .box 7 g7 0)], [(2, g2, .var 28 [.str ([] : Str), .str ([] : Str), .list 1 ([].map PV.str), .list 2 ([].map api_Attr.pv), .list 5 ([].map api_Node.pv)]), (3, g3, .row false 1 ([([97] : Str), ([98, 99] : Str), ([195, 169] : Str), ([120, 32, 121] : Str), ([230, 151, 165, 230, 156, 172] : Str)].map PV.str)), (4, g4, .var 28 [.str ([100, 111, 99] : Str), .str ([] : Str), .list 1 ([].map PV.str), .list 2 ([].map api_Attr.pv), .row 332 g332 v_34.length]), (5, g5, .row false 5 (texts_33.map api_Node.pv)), (7, g7, .var 28 [.str ([116, 101, 120, 116] : Str), .str x_67, .row 351 g351 v_73.length, .list 2 ([].map api_Attr.pv), .list 5 ([].map api_Node.pv)]), (332, g332, .row false 5 (v_34.map api_Node.pv)), (351, g351, .row false 1 (v_73.map PV.str))], nx⟩)
              (fun i s => False)
              (fun s => False) ?_ ?_ ?_ ?_
            · have hh := f8
              obtain ⟨pick_71, h84, hh⟩ := bind_ex hh
              refine awp_first fun K kk hK => ?_
              simp only [go_sem, hl0a, hl0b, hl0d, hl0w]
              refine step_call2 (diptychlaw18_pick_ok _ _ _ h84) (by (try simp only [go_sem, hl0a, hl0b, hl0d, hl0w]) <;> exact wkl) (by rfl) (by rfl) ?_
              simp only [go_sem, hl0a, hl0b, hl0d, hl0w]
              refine hK _ _ fun nx => ?_; clear hK K; try clear kk
              by_cases h85 : ((and64 pick_71 (2 : Int)) == (2 : Int)) = true
              · rw [if_pos h85] at hh
                refine awp_true (by first | exact congrArg PV.bool h85 | rfl) ?_
                obtain ⟨l_72, h86, hh⟩ := bind_ex hh
                obtain ⟨h86a, h86c⟩ := app_some h86
                have h86d := app_map (f := PV.str) h86c
                have h86e := app_len h86c
                try simp only [List.length_cons, List.length_nil, Nat.zero_add, Nat.reduceAdd] at h86a h86e
                try simp only [h86e] at h86a
                try simp only [List.map_cons, List.map_nil, List.nil_append, List.append_nil, List.cons_append, List.singleton_append, rune1, diptychlaw18_Cell.pv_eq, api_Attr.pv_eq, api_Node.pv_eq, step_Step.pv_eq, diff_change.pv_eq, maps_Range.pv_eq, pvL] at h86d
                refine awp_region fun K kk hK => ?_
                simp only [go_sem, h86a, h86d, h86e, hl0a, hl0b, hl0d, hl0w]
                (repeat refine sd ?_)
                refine hK _ _ fun nx => ?_; clear hK K; try clear kk
                refine nmx ?_
                refine fragN ?_
                refine cut_id ?_
                refine ⟨_, (Option.some.inj hh), ?_⟩
                first | exact ⟨_, _, _, _, _, _, _, _, rfl⟩ | (simp only [diptychlaw18_Cell.pv_eq, api_Attr.pv_eq, api_Node.pv_eq, step_Step.pv_eq, diff_change.pv_eq, maps_Range.pv_eq, pvL, List.map_cons, List.map_nil, List.map_append, rune1, h86e]; exact ⟨_, _, _, _, _, _, _, _, rfl⟩) | (simp only [diptychlaw18_Cell.pv_eq, api_Attr.pv_eq, api_Node.pv_eq, step_Step.pv_eq, diff_change.pv_eq, maps_Range.pv_eq, pvL, List.map_cons, List.map_nil, List.map_append, rune1, h86e, h77, h78, h85]; exact ⟨_, _, _, _, _, _, _, _, rfl⟩)
              · rw [if_neg h85] at hh
                replace h85 := Bool.eq_false_iff.mpr h85
                refine awp_false (by first | exact congrArg PV.bool h85 | rfl) ?_
                refine awp_skip ?_; refine nmx ?_
                refine fragN ?_
                refine cut_to (less_cut _ [0, 2, 3, 4, 5, 6, 7] [2, 3, 4, 5, 7, 332, 351]) ?_
                refine ⟨_, (Option.some.inj hh), ?_⟩
                first | exact ⟨_, _, _, _, _, _, _, _, rfl⟩ | (simp only [diptychlaw18_Cell.pv_eq, api_Attr.pv_eq, api_Node.pv_eq, step_Step.pv_eq, diff_change.pv_eq, maps_Range.pv_eq, pvL, List.map_cons, List.map_nil, List.map_append, rune1]; exact ⟨_, _, _, _, _, _, _, _, rfl⟩) | (simp only [diptychlaw18_Cell.pv_eq, api_Attr.pv_eq, api_Node.pv_eq, step_Step.pv_eq, diff_change.pv_eq, maps_Range.pv_eq, pvL, List.map_cons, List.map_nil, List.map_append, rune1, h77, h78, h85]; exact ⟨_, _, _, _, _, _, _, _, rfl⟩)
            · rintro s ⟨v_73, rfl, nx, g2, g3, g4, g5, g7, g332, g351, rfl⟩
              try dsimp only at hh
              obtain ⟨l_74, h87, hh⟩ := bind_ex hh
              obtain ⟨h87a, h87c⟩ := app_some h87
              have h87d := app_map (f := api_Node.pv) h87c
              have h87e := app_len h87c
              try simp only [List.length_cons, List.length_nil, Nat.zero_add, Nat.reduceAdd] at h87a h87e
              try simp only [h87e] at h87a
              try simp only [List.map_cons, List.map_nil, List.nil_append, List.append_nil, List.cons_append, List.singleton_append, rune1, diptychlaw18_Cell.pv_eq, api_Attr.pv_eq, api_Node.pv_eq, step_Step.pv_eq, diff_change.pv_eq, maps_Range.pv_eq, pvL] at h87d
              refine awp_first fun K kk hK => ?_
              simp only [go_sem, h87a, h87d, h87e, hl0a, hl0b, hl0d, hl0w]
              (repeat refine sd ?_)
              refine hK _ _ fun nx => ?_; clear hK K; try clear kk
              obtain ⟨pick_75, h88, hh⟩ := bind_ex hh
              refine awp_first fun K kk hK => ?_
              simp only [go_sem, hl0a, hl0b, hl0d, hl0w]
              refine step_call2 (diptychlaw18_pick_ok _ _ _ h88) (by (try simp only [go_sem, hl0a, hl0b, hl0d, hl0w]) <;> exact wkl) (by rfl) (by rfl) ?_
              simp only [go_sem, hl0a, hl0b, hl0d, hl0w]
              refine hK _ _ fun nx => ?_; clear hK K; try clear kk
              refine awp_seq ?_
              refine awp_first fun K kk hK => ?_
              simp only [go_sem, hl0a, hl0b, hl0d, hl0w]
              refine hK _ _ fun nx => ?_; clear hK K; try clear kk
              by_cases h89 : (pick_75 == (0 : Int)) = true
              · rw [if_pos h89] at hh
                refine awp_true (by first | exact congrArg PV.bool h89 | rfl) ?_
                refine awp_exit ?_; refine nmx ?_
                refine awp_region fun K kk hK => ?_
                simp only [go_sem, hl0a, hl0b, hl0d, hl0w]
                refine hK _ _ fun nx => ?_; clear hK K; try clear kk
                refine nmx ?_
                have ih' := ih (pre ++ [y_65]) (i_32 + 1) _ _ (by rw [hsplit]; simp) (by simp [hidx]) hh nx
                refine cut_id ?_
                first | exact ih' _ _ _ _ _ | (simp only [diptychlaw18_Cell.pv_eq, api_Attr.pv_eq, api_Node.pv_eq, step_Step.pv_eq, diff_change.pv_eq, maps_Range.pv_eq, pvL, List.map_cons, List.map_nil, List.map_append, rune1, h87e] at ih' ⊢; exact ih' _ _ _ _ _) | (simp only [diptychlaw18_Cell.pv_eq, api_Attr.pv_eq, api_Node.pv_eq, step_Step.pv_eq, diff_change.pv_eq, maps_Range.pv_eq, pvL, List.map_cons, List.map_nil, List.map_append, rune1, h87e, h77, h78, h89] at ih' ⊢; exact ih' _ _ _ _ _)
              · rw [if_neg h89] at hh
                replace h89 := Bool.eq_false_iff.mpr h89
                refine awp_false (by first | exact congrArg PV.bool h89 | rfl) ?_
                refine awp_skip ?_; refine nmx ?_
                obtain ⟨para_76, h90, hh⟩ := bind_ex hh
                refine awp_first fun K kk hK => ?_
                simp only [go_sem, hl0a, hl0b, hl0d, hl0w]
                refine step_call2 (diptychlaw18_para_ok _ _ _ h90) (by (try simp only [go_sem, hl0a, hl0b, hl0d, hl0w]) <;> exact wkl) (by rfl) (by rfl) ?_
                simp only [go_sem, hl0a, hl0b, hl0d, hl0w]
                refine hK _ _ fun nx => ?_; clear hK K; try clear kk
                refine awp_first fun K kk hK => ?_
                simp only [go_sem, hl0a, hl0b, hl0d, hl0w]
                refine hK _ _ fun nx => ?_; clear hK K; try clear kk
                refine awp_first fun K kk hK => ?_
                simp only [go_sem, hl0a, hl0b, hl0d, hl0w]
                refine hK _ _ fun nx => ?_; clear hK K; try clear kk
                refine awp_seq ?_
                refine awp_first fun K kk hK => ?_
                simp only [go_sem, hl0a, hl0b, hl0d, hl0w]
                refine hK _ _ fun nx => ?_; clear hK K; try clear kk
                by_cases h91 : (decide (pick_75 < (3 : Int))) = true
                · rw [if_pos h91] at hh
                  refine awp_true (by first | exact congrArg PV.bool h91 | rfl) ?_
                  obtain ⟨l_77, h92, hh⟩ := bind_ex hh
                  obtain ⟨h92a, h92c⟩ := app_some h92
                  have h92d := app_map (f := api_Node.pv) h92c
                  have h92e := app_len h92c
                  try simp only [List.length_cons, List.length_nil, Nat.zero_add, Nat.reduceAdd] at h92a h92e
                  try simp only [h92e] at h92a
                  try simp only [List.map_cons, List.map_nil, List.nil_append, List.append_nil, List.cons_append, List.singleton_append, rune1, diptychlaw18_Cell.pv_eq, api_Attr.pv_eq, api_Node.pv_eq, step_Step.pv_eq, diff_change.pv_eq, maps_Range.pv_eq, pvL] at h92d
                  refine awp_first fun K kk hK => ?_
                  simp only [go_sem, h92a, h92d, h92e, hl0a, hl0b, hl0d, hl0w]
                  (repeat refine sd ?_)
                  refine hK _ _ fun nx => ?_; clear hK K; try clear kk
                  refine awp_exit ?_; refine nmx ?_
                  refine awp_region fun K kk hK => ?_
                  simp only [go_sem, hl0a, hl0b, hl0d, hl0w]
                  refine hK _ _ fun nx => ?_; clear hK K; try clear kk
                  refine nmx ?_
                  have ih' := ih (pre ++ [y_65]) (i_32 + 1) _ _ (by rw [hsplit]; simp) (by simp [hidx]) hh nx
                  refine cut_id ?_
                  first | exact ih' _ _ _ _ _ | (simp only [diptychlaw18_Cell.pv_eq, api_Attr.pv_eq, api_Node.pv_eq, step_Step.pv_eq, diff_change.pv_eq, maps_Range.pv_eq, pvL, List.map_cons, List.map_nil, List.map_append, rune1, h87e, h92e] at ih' ⊢; exact ih' _ _ _ _ _) | (simp only [diptychlaw18_Cell.pv_eq, api_Attr.pv_eq, api_Node.pv_eq, step_Step.pv_eq, diff_change.pv_eq, maps_Range.pv_eq, pvL, List.map_cons, List.map_nil, List.map_append, rune1, h87e, h92e, h77, h78, h89, h91] at ih' ⊢; exact ih' _ _ _ _ _)
                · rw [if_neg h91] at hh
                  replace h91 := Bool.eq_false_iff.mpr h91
                  refine awp_false (by first | exact congrArg PV.bool h91 | rfl) ?_
                  refine awp_skip ?_; refine nmx ?_
                  refine awp_first fun K kk hK => ?_
                  simp only [go_sem, hl0a, hl0b, hl0d, hl0w]
                  refine hK _ _ fun nx => ?_; clear hK K; try clear kk
                  refine awp_seq ?_
                  obtain ⟨e9, f9, hh⟩ := bind_ex hh
                  refine awp_frag (fun s => .inr () = e9 ∧ ∃ (v_85 : Bool) (nx : Nat) (g2 : Nat) (g3 : Nat) (g4 : Nat) (g5 : Nat) (g11 : Nat) (g332 : Nat) (g381 : Nat), s = ⟨[(0, .list 4 (l_1.map diptychlaw18_Cell.pv)), (2, .box 2 g2 0), (3, .row 3 g3 [([97] : Str), ([98, 99] : Str), ([195, 169] : Str), ([120, 32, 121] : Str), ([230, 151, 165, 230, 156, 172] : Str)].length), (4, .box 4 g4 0), (5, .row 5 g5 ([] : List api_Node).length), (6, .int .i64 i_32), (10, .int .i64 (w64 ((v_34.length : Int) - (1 : Int)))), (11, .box 11 g11 0), (108, .bool v_85)], [(2, g2, .var 28 [.str ([] : Str), .str ([] : Str), .list 1 ([].map PV.str), .list 2 ([].map api_Attr.pv), .list 5 ([].map api_Node.pv)]), (3, g3, .row false 1 ([([97] : Str), ([98, 99] : Str), ([195, 169] : Str), ([120, 32, 121] : Str), ([230, 151, 165, 230, 156, 172] : Str)].map PV.str)), (4, g4, .var 28 [.str ([100, 111, 99] : Str), .str ([] : Str), .list 1 ([].map PV.str), .list 2 ([].map api_Attr.pv), .row 332 g332 v_34.length]), (5, g5, .row false 5 (([] : List api_Node).map api_Node.pv)), (11, g11, .var 28 [.str ([105, 116, 101, 109] : Str), .str ([] : Str), .list 1 ([].map PV.str), .list 2 ([].map api_Attr.pv), .row 381 g381 [para_76].length]), (332, g332, .row false 5 (v_34.map api_Node.pv)), (381, g381, .row false 5 ([para_76].map api_Node.pv))], nx⟩)
                    (fun i s => (i = 1 ∧ ∃ v_84, .inl v_84 = e9 ∧ ∃ (nx : Nat) (g2 : Nat) (g3 : Nat) (g4 : Nat) (g5 : Nat) (g332 : Nat), s = ⟨[(0, .list 4 (l_1.map diptychlaw18_Cell.pv)), (2, .box 2 g2 0), (3, .row 3 g3 [([97] : Str), ([98, 99] : Str), ([195, 169] : Str), ([120, 32, 121] : Str), ([230, 151, 165, 230, 156, 172] : Str)].length), (4, .box 4 g4 0), (5, .row 5 g5 ([] : List api_Node).length), (6, .int .i64 i_32)], [(2, g2, .var 28 [.str ([] : Str), .str ([] : Str), .list 1 ([].map PV.str), .list 2 ([].map api_Attr.pv), .list 5 ([].map api_Node.pv)]), (3, g3, .row false 1 ([([97] : Str), ([98, 99] : Str), ([195, 169] : Str), ([120, 32, 121] : Str), ([230, 151, 165, 230, 156, 172] : Str)].map PV.str)), (4, g4, .var 28 [.str ([100, 111, 99] : Str), .str ([] : Str), .list 1 ([].map PV.str), .list 2 ([].map api_Attr.pv), .row 332 g332 v_84.length]), (5, g5, .row false 5 (([] : List api_Node).map api_Node.pv)), (332, g332, .row false 5 (v_84.map api_Node.pv))], nx⟩))
                    (fun s => False) ?_ ?_ ?_ ?_
                  · have hh := f9
                    by_cases h93 : (decide ((w64 ((v_34.length : Int) - (1 : Int))) ≥ (0 : Int))) = true
                    · rw [if_pos h93] at hh
                      obtain ⟨x_78, h94, hh⟩ := bind_ex hh
                      obtain ⟨h94a, h94b, h94c⟩ := rd_some h94
                      have h94d := rd_get (f := api_Node.pv) h94c
                      have h94f := rd_more (f := api_Node.pv) h94c
                      try simp only [Int.toNat_natCast, Int.reduceToNat] at h94d h94f
                      by_cases h95 : (x_78.Kind == ([108, 105, 115, 116] : Str)) = true
                      · rw [if_pos h95] at hh
                        refine awp_first fun K kk hK => ?_
                        simp only [go_sem, h93, of_decide_eq_true h93, h94a, h94b, h94d, h94f.1, h94f.2, h93, of_decide_eq_true h93, h95, h95, hl0a, hl0b, hl0d, hl0w]
                        (repeat refine sd ?_)
                        refine hK _ _ fun nx => ?_; clear hK K; try clear kk
                        by_cases h96 : (pick_75 == (3 : Int)) = true
                        · rw [if_pos h96] at hh
                          refine awp_true (by first | exact congrArg PV.bool h96 | rfl) ?_
                          refine awp_first fun K kk hK => ?_
                          simp only [go_sem, h94a, h94b, h94d, h94f.1, h94f.2, hl0a, hl0b, hl0d, hl0w]
                          (repeat refine sd ?_)
                          refine hK _ _ fun nx => ?_; clear hK K; try clear kk
                          obtain ⟨l_79, h97, hh⟩ := bind_ex hh
                          obtain ⟨h97a, h97c⟩ := app_some h97
                          have h97d := app_map (f := api_Node.pv) h97c
                          have h97e := app_len h97c
                          try simp only [List.length_cons, List.length_nil, Nat.zero_add, Nat.reduceAdd] at h97a h97e
                          try simp only [h97e] at h97a
                          try simp only [List.map_cons, List.map_nil, List.nil_append, List.append_nil, List.cons_append, List.singleton_append, rune1, diptychlaw18_Cell.pv_eq, api_Attr.pv_eq, api_Node.pv_eq, step_Step.pv_eq, diff_change.pv_eq, maps_Range.pv_eq, pvL] at h97d
                          obtain ⟨l_80, h98, hh⟩ := bind_ex hh
                          obtain ⟨h98a, h98c⟩ := app_some h98
                          have h98d := app_map (f := api_Node.pv) h98c
                          have h98e := app_len h98c
                          try simp only [List.length_cons, List.length_nil, Nat.zero_add, Nat.reduceAdd] at h98a h98e
                          try simp only [h98e] at h98a
                          try simp only [List.map_cons, List.map_nil, List.nil_append, List.append_nil, List.cons_append, List.singleton_append, rune1, diptychlaw18_Cell.pv_eq, api_Attr.pv_eq, api_Node.pv_eq, step_Step.pv_eq, diff_change.pv_eq, maps_Range.pv_eq, pvL] at h98d
                          refine first_fact (.nrm 11 [none, none, none, none, some 5]) ?_
                          refine awp_first fun K kk hK => ?_
                          simp only [go_sem, h97a, h97d, h97e, h98a, h98d, h98e, hl0a, hl0b, hl0d, hl0w]
                          (repeat refine sd ?_)
                          refine hK _ _ fun nx => ?_; clear hK K; try clear kk
                          obtain ⟨s_81, h99, hh⟩ := bind_ex hh
                          obtain ⟨h99a, h99c⟩ := sl_some h99
                          have h99g := sl_le h99a
                          have h99d := sl_map0 (f := api_Node.pv) h99c
                          try simp only [Int.toNat_natCast, Int.reduceToNat, List.map_cons, List.map_nil, diptychlaw18_Cell.pv_eq, api_Attr.pv_eq, api_Node.pv_eq, step_Step.pv_eq, diff_change.pv_eq, maps_Range.pv_eq, pvL] at h99d
                          obtain ⟨l_82, h100, hh⟩ := bind_ex hh
                          obtain ⟨h100a, h100c⟩ := app_some h100
                          have h100d := app_map (f := api_Node.pv) h100c
                          have h100e := app_len h100c
                          try simp only [List.length_cons, List.length_nil, Nat.zero_add, Nat.reduceAdd] at h100a h100e
                          try simp only [h100e] at h100a
                          try simp only [List.map_cons, List.map_nil, List.nil_append, List.append_nil, List.cons_append, List.singleton_append, rune1, diptychlaw18_Cell.pv_eq, api_Attr.pv_eq, api_Node.pv_eq, step_Step.pv_eq, diff_change.pv_eq, maps_Range.pv_eq, pvL] at h100d
                          obtain ⟨l_83, h101, hh⟩ := bind_ex hh
                          obtain ⟨h101a, h101c⟩ := app_some h101
                          have h101d := app_map (f := api_Node.pv) h101c
                          have h101e := app_len h101c
                          try simp only [List.length_cons, List.length_nil, Nat.zero_add, Nat.reduceAdd] at h101a h101e
                          try simp only [h101e] at h101a
                          try simp only [List.map_cons, List.map_nil, List.nil_append, List.append_nil, List.cons_append, List.singleton_append, rune1, diptychlaw18_Cell.pv_eq, api_Attr.pv_eq, api_Node.pv_eq, step_Step.pv_eq, diff_change.pv_eq, maps_Range.pv_eq, pvL] at h101d
                          refine awp_first fun K kk hK => ?_
                          simp only [go_sem, h99a.1, h99a.2.1, h99a.2.2, h99d, h99g, h100a, h100d, h100e, h101a, h101d, h101e, hl0a, hl0b, hl0d, hl0w]
                          (repeat refine sd ?_)
                          refine hK _ _ fun nx => ?_; clear hK K; try clear kk
                          refine awp_exit ?_; refine nmx ?_
                          refine fragE ⟨rfl, _, (Option.some.inj hh), ?_⟩
                          first | exact ⟨_, _, _, _, _, _, rfl⟩ | (simp only [diptychlaw18_Cell.pv_eq, api_Attr.pv_eq, api_Node.pv_eq, step_Step.pv_eq, diff_change.pv_eq, maps_Range.pv_eq, pvL, List.map_cons, List.map_nil, List.map_append, rune1, h87e, h97e, h97d, h98e, h100e, h100d, h101e]; exact ⟨_, _, _, _, _, _, rfl⟩) | (simp only [diptychlaw18_Cell.pv_eq, api_Attr.pv_eq, api_Node.pv_eq, step_Step.pv_eq, diff_change.pv_eq, maps_Range.pv_eq, pvL, List.map_cons, List.map_nil, List.map_append, rune1, h87e, h97e, h97d, h98e, h100e, h100d, h101e, h77, h78, h89, h91, h93, h95, h96]; exact ⟨_, _, _, _, _, _, rfl⟩)
                        · rw [if_neg h96] at hh
                          replace h96 := Bool.eq_false_iff.mpr h96
                          refine awp_false (by first | exact congrArg PV.bool h96 | rfl) ?_
                          refine awp_skip ?_; refine nmx ?_
                          refine fragN ?_
                          refine cut_id ?_
                          refine ⟨(Option.some.inj hh), ?_⟩
                          first | exact ⟨_, _, _, _, _, _, _, _, _, rfl⟩ | (simp only [diptychlaw18_Cell.pv_eq, api_Attr.pv_eq, api_Node.pv_eq, step_Step.pv_eq, diff_change.pv_eq, maps_Range.pv_eq, pvL, List.map_cons, List.map_nil, List.map_append, rune1, h87e]; exact ⟨_, _, _, _, _, _, _, _, _, rfl⟩) | (simp only [diptychlaw18_Cell.pv_eq, api_Attr.pv_eq, api_Node.pv_eq, step_Step.pv_eq, diff_change.pv_eq, maps_Range.pv_eq, pvL, List.map_cons, List.map_nil, List.map_append, rune1, h87e, h77, h78, h89, h91, h93, h95, h96]; exact ⟨_, _, _, _, _, _, _, _, _, rfl⟩)
                      · rw [if_neg h95] at hh
                        replace h95 := Bool.eq_false_iff.mpr h95
                        refine awp_first fun K kk hK => ?_
                        simp only [go_sem, h93, of_decide_eq_true h93, h94a, h94b, h94d, h94f.1, h94f.2, h93, of_decide_eq_true h93, h95, h95, hl0a, hl0b, hl0d, hl0w]
                        (repeat refine sd ?_)
                        refine hK _ _ fun nx => ?_; clear hK K; try clear kk
                        refine awp_false rfl ?_
                        refine awp_skip ?_; refine nmx ?_
                        refine fragN ?_
                        refine cut_id ?_
                        refine ⟨(Option.some.inj hh), ?_⟩
                        first | exact ⟨_, _, _, _, _, _, _, _, _, rfl⟩ | (simp only [diptychlaw18_Cell.pv_eq, api_Attr.pv_eq, api_Node.pv_eq, step_Step.pv_eq, diff_change.pv_eq, maps_Range.pv_eq, pvL, List.map_cons, List.map_nil, List.map_append, rune1, h87e]; exact ⟨_, _, _, _, _, _, _, _, _, rfl⟩) | (simp only [diptychlaw18_Cell.pv_eq, api_Attr.pv_eq, api_Node.pv_eq, step_Step.pv_eq, diff_change.pv_eq, maps_Range.pv_eq, pvL, List.map_cons, List.map_nil, List.map_append, rune1, h87e, h77, h78, h89, h91, h93, h95]; exact ⟨_, _, _, _, _, _, _, _, _, rfl⟩)
                    · rw [if_neg h93] at hh
                      replace h93 := Bool.eq_false_iff.mpr h93
                      refine awp_first fun K kk hK => ?_
                      simp only [go_sem, h93, of_decide_eq_false h93, h93, of_decide_eq_false h93, hl0a, hl0b, hl0d, hl0w]
                      (repeat refine sd ?_)
                      refine hK _ _ fun nx => ?_; clear hK K; try clear kk
                      refine awp_false rfl ?_
                      refine awp_skip ?_; refine nmx ?_
                      refine fragN ?_
                      refine cut_id ?_
                      refine ⟨(Option.some.inj hh), ?_⟩
                      first | exact ⟨_, _, _, _, _, _, _, _, _, rfl⟩ | (simp only [diptychlaw18_Cell.pv_eq, api_Attr.pv_eq, api_Node.pv_eq, step_Step.pv_eq, diff_change.pv_eq, maps_Range.pv_eq, pvL, List.map_cons, List.map_nil, List.map_append, rune1, h87e]; exact ⟨_, _, _, _, _, _, _, _, _, rfl⟩) | (simp only [diptychlaw18_Cell.pv_eq, api_Attr.pv_eq, api_Node.pv_eq, step_Step.pv_eq, diff_change.pv_eq, maps_Range.pv_eq, pvL, List.map_cons, List.map_nil, List.map_append, rune1, h87e, h77, h78, h89, h91, h93]; exact ⟨_, _, _, _, _, _, _, _, _, rfl⟩)
                  · rintro s ⟨rfl, v_85, nx, g2, g3, g4, g5, g11, g332, g381, rfl⟩
                    try dsimp only at hh
                    refine awp_seq ?_
                    by_cases h102 : (decide ((w64 ((v_34.length : Int) - (1 : Int))) ≥ (0 : Int))) = true
                    · rw [if_pos h102] at hh
                      obtain ⟨x_86, h103, hh⟩ := bind_ex hh
                      obtain ⟨h103a, h103b, h103c⟩ := rd_some h103
                      have h103d := rd_get (f := api_Node.pv) h103c
                      have h103f := rd_more (f := api_Node.pv) h103c
                      try simp only [Int.toNat_natCast, Int.reduceToNat] at h103d h103f
                      by_cases h104 : (x_86.Kind == ([108, 105, 115, 116] : Str)) = true
                      · rw [if_pos h104] at hh
                        obtain ⟨depth_87, h105, hh⟩ := bind_ex hh
                        refine awp_first fun K kk hK => ?_
                        simp only [go_sem, h102, of_decide_eq_true h102, h103a, h103b, h103d, h103f.1, h103f.2, h102, of_decide_eq_true h102, h104, h103a, h103b, h103d, h103f.1, h103f.2, h104, hl0a, hl0b, hl0d, hl0w]
                        (repeat refine sd ?_)
                        refine step_call2 (diptychref1_Depth_ok _ _ h105) (by (try simp only [go_sem, h102, of_decide_eq_true h102, h103a, h103b, h103d, h103f.1, h103f.2, h102, of_decide_eq_true h102, h104, h103a, h103b, h103d, h103f.1, h103f.2, h104, hl0a, hl0b, hl0d, hl0w]) <;> exact wkl) (by rfl) (by rfl) ?_
                        simp only [go_sem, h102, of_decide_eq_true h102, h103a, h103b, h103d, h103f.1, h103f.2, h102, of_decide_eq_true h102, h104, h103a, h103b, h103d, h103f.1, h103f.2, h104, hl0a, hl0b, hl0d, hl0w]
                        (repeat refine sd ?_)
                        refine hK _ _ fun nx => ?_; clear hK K; try clear kk
                        by_cases h106 : (decide (depth_87 < (30 : Int))) = true
                        · rw [if_pos h106] at hh
                          refine awp_true (by first | exact congrArg PV.bool h106 | rfl) ?_
                          obtain ⟨l_88, h107, hh⟩ := bind_ex hh
                          obtain ⟨h107a, h107c⟩ := app_some h107
                          have h107d := app_map (f := api_Node.pv) h107c
                          have h107e := (app_len h107c).symm
                          try simp only [List.length_cons, List.length_nil, Nat.zero_add, Nat.reduceAdd] at h107a h107e
                          try simp only [List.map_cons, List.map_nil, List.nil_append, List.append_nil, List.cons_append, List.singleton_append, rune1, diptychlaw18_Cell.pv_eq, api_Attr.pv_eq, api_Node.pv_eq, step_Step.pv_eq, diff_change.pv_eq, maps_Range.pv_eq, pvL] at h107d
                          have h107g := take_lit (f := api_Node.pv) h107e
                          refine awp_first fun K kk hK => ?_
                          simp only [go_sem, h103a, h103b, h103d, h103f.1, h103f.2, h107a, h107d, eq_true h107e, eq_true (Nat.le_of_eq h107e.symm), h107g, hl0a, hl0b, hl0d, hl0w]
                          (repeat refine sd ?_)
                          refine hK _ _ fun nx => ?_; clear hK K; try clear kk
                          obtain ⟨s_89, h108, hh⟩ := bind_ex hh
                          obtain ⟨h108a, h108c⟩ := sl_some h108
                          have h108g := sl_le h108a
                          have h108d := sl_map0 (f := api_Node.pv) h108c
                          try simp only [Int.toNat_natCast, Int.reduceToNat, List.map_cons, List.map_nil, diptychlaw18_Cell.pv_eq, api_Attr.pv_eq, api_Node.pv_eq, step_Step.pv_eq, diff_change.pv_eq, maps_Range.pv_eq, pvL] at h108d
                          obtain ⟨l_90, h109, hh⟩ := bind_ex hh
                          obtain ⟨h109a, h109c⟩ := app_some h109
                          have h109d := app_map (f := api_Node.pv) h109c
                          have h109e := app_len h109c
                          try simp only [List.length_cons, List.length_nil, Nat.zero_add, Nat.reduceAdd] at h109a h109e
                          try simp only [h109e] at h109a
                          try simp only [List.map_cons, List.map_nil, List.nil_append, List.append_nil, List.cons_append, List.singleton_append, rune1, diptychlaw18_Cell.pv_eq, api_Attr.pv_eq, api_Node.pv_eq, step_Step.pv_eq, diff_change.pv_eq, maps_Range.pv_eq, pvL] at h109d
                          refine awp_region fun K kk hK => ?_
                          simp only [go_sem, h108a.1, h108a.2.1, h108a.2.2, h108d, h108g, h109a, h109d, h109e, eq_true h107e, eq_true (Nat.le_of_eq h107e.symm), h107g, hl0a, hl0b, hl0d, hl0w]
                          (repeat refine sd ?_)
                          refine hK _ _ fun nx => ?_; clear hK K; try clear kk
                          refine nmx ?_
                          obtain ⟨l_91, h110, hh⟩ := bind_ex hh
                          obtain ⟨h110a, h110c⟩ := app_some h110
                          have h110d := app_map (f := api_Node.pv) h110c
                          have h110e := app_len h110c
                          try simp only [List.length_cons, List.length_nil, Nat.zero_add, Nat.reduceAdd] at h110a h110e
                          try simp only [h110e] at h110a
                          try simp only [List.map_cons, List.map_nil, List.nil_append, List.append_nil, List.cons_append, List.singleton_append, rune1, diptychlaw18_Cell.pv_eq, api_Attr.pv_eq, api_Node.pv_eq, step_Step.pv_eq, diff_change.pv_eq, maps_Range.pv_eq, pvL] at h110d
                          refine awp_region fun K kk hK => ?_
                          simp only [go_sem, h110a, h110d, h110e, eq_true h107e, eq_true (Nat.le_of_eq h107e.symm), h107g, hl0a, hl0b, hl0d, hl0w]
                          (repeat refine sd ?_)
                          refine hK _ _ fun nx => ?_; clear hK K; try clear kk
                          refine nmx ?_
                          refine awp_region fun K kk hK => ?_
                          simp only [go_sem, eq_true h107e, eq_true (Nat.le_of_eq h107e.symm), h107g, hl0a, hl0b, hl0d, hl0w]
                          refine hK _ _ fun nx => ?_; clear hK K; try clear kk
                          refine nmx ?_
                          have ih' := ih (pre ++ [y_65]) (i_32 + 1) _ _ (by rw [hsplit]; simp) (by simp [hidx]) hh nx
                          refine cut_id ?_
                          first | exact ih' _ _ _ _ _ | (simp only [diptychlaw18_Cell.pv_eq, api_Attr.pv_eq, api_Node.pv_eq, step_Step.pv_eq, diff_change.pv_eq, maps_Range.pv_eq, pvL, List.map_cons, List.map_nil, List.map_append, rune1, h87e, h107e, h109e, h109d, h110e] at ih' ⊢; exact ih' _ _ _ _ _) | (simp only [diptychlaw18_Cell.pv_eq, api_Attr.pv_eq, api_Node.pv_eq, step_Step.pv_eq, diff_change.pv_eq, maps_Range.pv_eq, pvL, List.map_cons, List.map_nil, List.map_append, rune1, h87e, h107e, h109e, h109d, h110e, h102, h104, h106, h77, h78, h89, h91] at ih' ⊢; exact ih' _ _ _ _ _)
                        · rw [if_neg h106] at hh
                          replace h106 := Bool.eq_false_iff.mpr h106
                          refine awp_false (by first | exact congrArg PV.bool h106 | rfl) ?_
                          refine awp_skip ?_; refine nmx ?_
                          obtain ⟨l_92, h111, hh⟩ := bind_ex hh
                          obtain ⟨h111a, h111c⟩ := app_some h111
                          have h111d := app_map (f := api_Node.pv) h111c
                          have h111e := app_len h111c
                          try simp only [List.length_cons, List.length_nil, Nat.zero_add, Nat.reduceAdd] at h111a h111e
                          try simp only [h111e] at h111a
                          try simp only [List.map_cons, List.map_nil, List.nil_append, List.append_nil, List.cons_append, List.singleton_append, rune1, diptychlaw18_Cell.pv_eq, api_Attr.pv_eq, api_Node.pv_eq, step_Step.pv_eq, diff_change.pv_eq, maps_Range.pv_eq, pvL] at h111d
                          refine awp_region fun K kk hK => ?_
                          simp only [go_sem, h111a, h111d, h111e, hl0a, hl0b, hl0d, hl0w]
                          (repeat refine sd ?_)
                          refine hK _ _ fun nx => ?_; clear hK K; try clear kk
                          refine nmx ?_
                          refine awp_region fun K kk hK => ?_
                          simp only [go_sem, hl0a, hl0b, hl0d, hl0w]
                          refine hK _ _ fun nx => ?_; clear hK K; try clear kk
                          refine nmx ?_
                          have ih' := ih (pre ++ [y_65]) (i_32 + 1) _ _ (by rw [hsplit]; simp) (by simp [hidx]) hh nx
                          refine cut_id ?_
                          first | exact ih' _ _ _ _ _ | (simp only [diptychlaw18_Cell.pv_eq, api_Attr.pv_eq, api_Node.pv_eq, step_Step.pv_eq, diff_change.pv_eq, maps_Range.pv_eq, pvL, List.map_cons, List.map_nil, List.map_append, rune1, h87e, h111e] at ih' ⊢; exact ih' _ _ _ _ _) | (simp only [diptychlaw18_Cell.pv_eq, api_Attr.pv_eq, api_Node.pv_eq, step_Step.pv_eq, diff_change.pv_eq, maps_Range.pv_eq, pvL, List.map_cons, List.map_nil, List.map_append, rune1, h87e, h111e, h102, h104, h106, h77, h78, h89, h91] at ih' ⊢; exact ih' _ _ _ _ _)
                      · rw [if_neg h104] at hh
                        replace h104 := Bool.eq_false_iff.mpr h104
                        refine awp_first fun K kk hK => ?_
                        simp only [go_sem, h102, of_decide_eq_true h102, h103a, h103b, h103d, h103f.1, h103f.2, h102, of_decide_eq_true h102, h104, h104, hl0a, hl0b, hl0d, hl0w]
                        (repeat refine sd ?_)
                        refine hK _ _ fun nx => ?_; clear hK K; try clear kk
                        refine awp_false rfl ?_
                        refine awp_skip ?_; refine nmx ?_
                        obtain ⟨l_93, h112, hh⟩ := bind_ex hh
                        obtain ⟨h112a, h112c⟩ := app_some h112
                        have h112d := app_map (f := api_Node.pv) h112c
                        have h112e := app_len h112c
                        try simp only [List.length_cons, List.length_nil, Nat.zero_add, Nat.reduceAdd] at h112a h112e
                        try simp only [h112e] at h112a
                        try simp only [List.map_cons, List.map_nil, List.nil_append, List.append_nil, List.cons_append, List.singleton_append, rune1, diptychlaw18_Cell.pv_eq, api_Attr.pv_eq, api_Node.pv_eq, step_Step.pv_eq, diff_change.pv_eq, maps_Range.pv_eq, pvL] at h112d
                        refine awp_region fun K kk hK => ?_
                        simp only [go_sem, h112a, h112d, h112e, hl0a, hl0b, hl0d, hl0w]
                        (repeat refine sd ?_)
                        refine hK _ _ fun nx => ?_; clear hK K; try clear kk
                        refine nmx ?_
                        refine awp_region fun K kk hK => ?_
                        simp only [go_sem, hl0a, hl0b, hl0d, hl0w]
                        refine hK _ _ fun nx => ?_; clear hK K; try clear kk
                        refine nmx ?_
                        have ih' := ih (pre ++ [y_65]) (i_32 + 1) _ _ (by rw [hsplit]; simp) (by simp [hidx]) hh nx
                        refine cut_id ?_
                        first | exact ih' _ _ _ _ _ | (simp only [diptychlaw18_Cell.pv_eq, api_Attr.pv_eq, api_Node.pv_eq, step_Step.pv_eq, diff_change.pv_eq, maps_Range.pv_eq, pvL, List.map_cons, List.map_nil, List.map_append, rune1, h87e, h112e] at ih' ⊢; exact ih' _ _ _ _ _) | (simp only [diptychlaw18_Cell.pv_eq, api_Attr.pv_eq, api_Node.pv_eq, step_Step.pv_eq, diff_change.pv_eq, maps_Range.pv_eq, pvL, List.map_cons, List.map_nil, List.map_append, rune1, h87e, h112e, h102, h104, h77, h78, h89, h91] at ih' ⊢; exact ih' _ _ _ _ _)
                    · rw [if_neg h102] at hh
                      replace h102 := Bool.eq_false_iff.mpr h102
                      refine awp_first fun K kk hK => ?_
                      simp only [go_sem, h102, of_decide_eq_false h102, h102, of_decide_eq_false h102, hl0a, hl0b, hl0d, hl0w]
                      (repeat refine sd ?_)
                      refine hK _ _ fun nx => ?_; clear hK K; try clear kk
                      refine awp_false rfl ?_
                      refine awp_skip ?_; refine nmx ?_
                      obtain ⟨l_94, h113, hh⟩ := bind_ex hh
                      obtain ⟨h113a, h113c⟩ := app_some h113
                      have h113d := app_map (f := api_Node.pv) h113c
                      have h113e := app_len h113c
                      try simp only [List.length_cons, List.length_nil, Nat.zero_add, Nat.reduceAdd] at h113a h113e
                      try simp only [h113e] at h113a
                      try simp only [List.map_cons, List.map_nil, List.nil_append, List.append_nil, List.cons_append, List.singleton_append, rune1, diptychlaw18_Cell.pv_eq, api_Attr.pv_eq, api_Node.pv_eq, step_Step.pv_eq, diff_change.pv_eq, maps_Range.pv_eq, pvL] at h113d
                      refine awp_region fun K kk hK => ?_
                      simp only [go_sem, h113a, h113d, h113e, hl0a, hl0b, hl0d, hl0w]
                      (repeat refine sd ?_)
                      refine hK _ _ fun nx => ?_; clear hK K; try clear kk
                      refine nmx ?_
                      refine awp_region fun K kk hK => ?_
                      simp only [go_sem, hl0a, hl0b, hl0d, hl0w]
                      refine hK _ _ fun nx => ?_; clear hK K; try clear kk
                      refine nmx ?_
                      have ih' := ih (pre ++ [y_65]) (i_32 + 1) _ _ (by rw [hsplit]; simp) (by simp [hidx]) hh nx
                      refine cut_id ?_
                      first | exact ih' _ _ _ _ _ | (simp only [diptychlaw18_Cell.pv_eq, api_Attr.pv_eq, api_Node.pv_eq, step_Step.pv_eq, diff_change.pv_eq, maps_Range.pv_eq, pvL, List.map_cons, List.map_nil, List.map_append, rune1, h87e, h113e] at ih' ⊢; exact ih' _ _ _ _ _) | (simp only [diptychlaw18_Cell.pv_eq, api_Attr.pv_eq, api_Node.pv_eq, step_Step.pv_eq, diff_change.pv_eq, maps_Range.pv_eq, pvL, List.map_cons, List.map_nil, List.map_append, rune1, h87e, h113e, h102, h77, h78, h89, h91] at ih' ⊢; exact ih' _ _ _ _ _)
                  · intro i s h
                    obtain ⟨rfl, v_84, rfl, nx, g2, g3, g4, g5, g332, rfl⟩ := h
                    try dsimp only at hh
                    refine nmx ?_
                    refine awp_region fun K kk hK => ?_
                    simp only [go_sem, hl0a, hl0b, hl0d, hl0w]
                    refine hK _ _ fun nx => ?_; clear hK K; try clear kk
                    refine nmx ?_
                    have ih' := ih (pre ++ [y_65]) (i_32 + 1) _ _ (by rw [hsplit]; simp) (by simp [hidx]) hh nx
                    refine cut_id ?_
                    first | exact ih' _ _ _ _ _ | (simp only [diptychlaw18_Cell.pv_eq, api_Attr.pv_eq, api_Node.pv_eq, step_Step.pv_eq, diff_change.pv_eq, maps_Range.pv_eq, pvL, List.map_cons, List.map_nil, List.map_append, rune1, h87e] at ih' ⊢; exact ih' _ _ _ _ _) | (simp only [diptychlaw18_Cell.pv_eq, api_Attr.pv_eq, api_Node.pv_eq, step_Step.pv_eq, diff_change.pv_eq, maps_Range.pv_eq, pvL, List.map_cons, List.map_nil, List.map_append, rune1, h87e, h77, h78, h89, h91] at ih' ⊢; exact ih' _ _ _ _ _)
                  · intro s h; exact h.elim
            · intro i s h; exact h.elim
            · intro s h; exact h.elim
          · intro i s h; exact h.elim
          · intro s h; exact h.elim
        · rw [if_neg h78] at hh
          replace h78 := Bool.eq_false_iff.mpr h78
          refine awp_false (by first | exact congrArg PV.bool h78 | rfl) ?_
          refine awp_exit ?_; refine nmx ?_
          refine fragN ?_
          refine cut_id ?_
          refine ⟨_, (Option.some.inj hh), ?_⟩
          first | exact ⟨_, _, _, _, _, _, _, _, _, rfl⟩ | (simp only [diptychlaw18_Cell.pv_eq, api_Attr.pv_eq, api_Node.pv_eq, step_Step.pv_eq, diff_change.pv_eq, maps_Range.pv_eq, pvL, List.map_cons, List.map_nil, List.map_append, rune1]; exact ⟨_, _, _, _, _, _, _, _, _, rfl⟩) | (simp only [diptychlaw18_Cell.pv_eq, api_Attr.pv_eq, api_Node.pv_eq, step_Step.pv_eq, diff_change.pv_eq, maps_Range.pv_eq, pvL, List.map_cons, List.map_nil, List.map_append, rune1, h77, h78]; exact ⟨_, _, _, _, _, _, _, _, _, rfl⟩)
    exact key l_1 [] _ _ _ rfl rfl f0 _ _ _ _ _ _
  · rintro s ⟨t, hless, v_98, rfl, i_95, v_96, texts_97, nx, g2, g3, g4, g5, g332, rfl⟩
    try dsimp only at hh
    refine nmy ?_
    first | (refine cut_less hless ?_; try refine cut_awp ?_) | refine frag_less hless ?_ | refine body_less hless ?_
    refine awp_first fun K kk hK => ?_
    simp only [go_sem]
    refine hK _ _ fun nx => ?_; clear hK K; try clear kk
    refine awp_ret ?_; refine nmx ?_
    obtain hR := Option.some.inj hh
    subst hR
    exact ret_p2
  · intro i s h; exact h.elim
  · intro s h; exact h.elim
theorem maps_Grows_ok (m_1 : (List maps_Range)) (R : Int) (hh : maps_Grows m_1 = some R) : PC Tryd.prog 21 [.list 3 (m_1.map maps_Range.pv)] (.int .i64 R) := by
  rw [maps_Grows] at hh
  refine start_maps_Grows rfl ?_
  refine awp_first fun K kk hK => ?_
  simp only [go_sem]
  refine hK _ _ fun nx => ?_; clear hK K; try clear kk
  refine awp_first fun K kk hK => ?_
  simp only [go_sem]
  refine hK _ _ fun nx => ?_; clear hK K; try clear kk
  refine awp_seq ?_
  refine awp_first fun K kk hK => ?_
  simp only [go_sem]
  refine hK _ _ fun nx => ?_; clear hK K; try clear kk
  obtain ⟨e0, f0, hh⟩ := bind_ex hh
  obtain ⟨hlen0, f0⟩ := chk_some f0
  refine awp_fragE (CutTo (fun s => ∃ n_7, n_7 = e0 ∧ ∃ (v_8 : Int) (v_9 : Bool) (nx : Nat), s = ⟨[(3, .int .i64 n_7), (6, .list 3 (m_1.map maps_Range.pv)), (7, .int .i64 (m_1.length : Int)), (8, .int .i64 v_8), (9, .bool v_9)], [], nx⟩))
    (fun i s => False)
    (fun s => False) ?_ ?_ ?_ ?_
  · refine awp_block ?_
    refine awp_loopJ fun I hI => ?_
    have key : ∀ (suf pre : List maps_Range) (v_4 : Int) (n_3 : Int), m_1 = pre ++ suf → v_4 = (pre.length : Int) → maps_Grows_l0 suf v_4 n_3 = some e0 → ∀ (nx : Nat), I ⟨[(3, .int .i64 n_3), (6, .list 3 (m_1.map maps_Range.pv)), (7, .int .i64 (m_1.length : Int)), (8, .int .i64 v_4)], [], nx⟩ := by
      intro suf
      induction suf with
      | nil =>
        intro pre v_4 n_3 hsplit hidx hh nx
        rw [maps_Grows_l0] at hh
        refine hI _ ?_
        have h5 := walk_nil hsplit hidx
        refine awp_first fun K kk hK => ?_
        simp only [go_sem]
        refine hK _ _ fun nx => ?_; clear hK K; try clear kk
        refine awp_seq ?_
        refine awp_false (by first | exact congrArg PV.bool h5 | rfl) ?_
        refine awp_exit ?_; refine nmx ?_
        refine fragN ?_
        refine cut_id ?_
        refine ⟨_, (Option.some.inj hh), ?_⟩
        first | exact ⟨_, _, _, rfl⟩ | (simp only [diptychlaw18_Cell.pv_eq, api_Attr.pv_eq, api_Node.pv_eq, step_Step.pv_eq, diff_change.pv_eq, maps_Range.pv_eq, pvL, List.map_cons, List.map_nil, List.map_append, rune1]; exact ⟨_, _, _, rfl⟩) | (simp only [diptychlaw18_Cell.pv_eq, api_Attr.pv_eq, api_Node.pv_eq, step_Step.pv_eq, diff_change.pv_eq, maps_Range.pv_eq, pvL, List.map_cons, List.map_nil, List.map_append, rune1, h5]; exact ⟨_, _, _, rfl⟩)
      | cons y_6 suf ih =>
        intro pre v_4 n_3 hsplit hidx hh nx
        rw [maps_Grows_l0] at hh
        refine hI _ ?_
        obtain ⟨hl0a, hl0b, hl0d, hl0w, h5⟩ := walk_cons (f := maps_Range.pv) hsplit hidx hlen0
        refine awp_first fun K kk hK => ?_
        simp only [go_sem]
        refine hK _ _ fun nx => ?_; clear hK K; try clear kk
        refine awp_seq ?_
        refine awp_true (by first | exact congrArg PV.bool h5 | rfl) ?_
        refine awp_skip ?_; refine nmx ?_
        refine awp_seq ?_
        refine awp_block ?_
        refine awp_first fun K kk hK => ?_
        simp only [go_sem, hl0a, hl0b, hl0d, hl0w]
        refine hK _ _ fun nx => ?_; clear hK K; try clear kk
        refine awp_region fun K kk hK => ?_
        simp only [go_sem, hl0a, hl0b, hl0d, hl0w]
        refine hK _ _ fun nx => ?_; clear hK K; try clear kk
        refine nmx ?_
        refine awp_region fun K kk hK => ?_
        simp only [go_sem, hl0a, hl0b, hl0d, hl0w]
        refine hK _ _ fun nx => ?_; clear hK K; try clear kk
        refine nmx ?_
        have ih' := ih (pre ++ [y_6]) (v_4 + 1) _ (by rw [hsplit]; simp) (by simp [hidx]) hh nx
        refine cut_id ?_
        first | exact ih' | (simp only [diptychlaw18_Cell.pv_eq, api_Attr.pv_eq, api_Node.pv_eq, step_Step.pv_eq, diff_change.pv_eq, maps_Range.pv_eq, pvL, List.map_cons, List.map_nil, List.map_append, rune1] at ih' ⊢; exact ih') | (simp only [diptychlaw18_Cell.pv_eq, api_Attr.pv_eq, api_Node.pv_eq, step_Step.pv_eq, diff_change.pv_eq, maps_Range.pv_eq, pvL, List.map_cons, List.map_nil, List.map_append, rune1, h5] at ih' ⊢; exact ih')
    exact key m_1 [] _ _ rfl rfl f0 _
  · rintro s ⟨t, hless, n_7, rfl, v_8, v_9, nx, rfl⟩
    try dsimp only at hh
    refine nmy ?_
    first | (refine cut_less hless ?_; try refine cut_awp ?_) | refine frag_less hless ?_ | refine body_less hless ?_
    refine awp_first fun K kk hK => ?_
    simp only [go_sem]
    refine hK _ _ fun nx => ?_; clear hK K; try clear kk
    refine awp_ret ?_; refine nmx ?_
    obtain hR := Option.some.inj hh
    subst hR
    exact ret_p2
  · intro i s h; exact h.elim
  · intro s h; exact h.elim
theorem step_MapOf_ok (s_1 : step_Step) (R : (List maps_Range)) (hh : step_MapOf s_1 = some R) : PC Tryd.prog 22 [.agg [.int .u8 s_1.Kind, .int .i64 s_1.From, .int .i64 s_1.To, .list 5 (s_1.Nodes.map api_Node.pv), .str s_1.Name, .str s_1.Value]] (.list 3 (R.map maps_Range.pv)) := by
  rw [step_MapOf] at hh
  refine start_step_MapOf rfl ?_
  refine awp_first fun K kk hK => ?_
  simp only [go_sem]
  refine hK _ _ fun nx => ?_; clear hK K; try clear kk
  obtain ⟨total_2, h1, hh⟩ := bind_ex hh
  refine awp_first fun K kk hK => ?_
  simp only [go_sem]
  refine step_call2 (node_Total_ok _ _ h1) (by (try simp only [go_sem]) <;> exact wkl) (by rfl) (by rfl) ?_
  simp only [go_sem]
  refine hK _ _ fun nx => ?_; clear hK K; try clear kk
  refine awp_seq ?_
  by_cases h2 : (s_1.Kind != (114 : Int)) = true
  · rw [if_pos h2] at hh
    refine awp_first fun K kk hK => ?_
    simp only [go_sem, h2, h2]
    (repeat refine sd ?_)
    refine hK _ _ fun nx => ?_; clear hK K; try clear kk
    refine awp_true rfl ?_
    refine awp_first fun K kk hK => ?_
    simp only [go_sem]
    refine hK _ _ fun nx => ?_; clear hK K; try clear kk
    refine awp_ret ?_; refine nmx ?_
    obtain hR := Option.some.inj hh
    subst hR
    exact ret_p2
  · rw [if_neg h2] at hh
    replace h2 := Bool.eq_false_iff.mpr h2
    by_cases h3 : (s_1.From == s_1.To) = true
    · rw [if_pos h3] at hh
      refine awp_first fun K kk hK => ?_
      simp only [go_sem, h2, h3, h3, h2]
      (repeat refine sd ?_)
      refine hK _ _ fun nx => ?_; clear hK K; try clear kk
      by_cases h4 : (total_2 == (0 : Int)) = true
      · rw [if_pos h4] at hh
        refine awp_true (by first | exact congrArg PV.bool h4 | rfl) ?_
        refine awp_first fun K kk hK => ?_
        simp only [go_sem]
        refine hK _ _ fun nx => ?_; clear hK K; try clear kk
        refine awp_ret ?_; refine nmx ?_
        obtain hR := Option.some.inj hh
        subst hR
        exact ret_p2
      · rw [if_neg h4] at hh
        replace h4 := Bool.eq_false_iff.mpr h4
        refine awp_false (by first | exact congrArg PV.bool h4 | rfl) ?_
        refine awp_skip ?_; refine nmx ?_
        refine awp_first fun K kk hK => ?_
        simp only [go_sem]
        refine hK _ _ fun nx => ?_; clear hK K; try clear kk
        refine awp_ret ?_; refine nmx ?_
        obtain hR := Option.some.inj hh
        subst hR
        exact ret_p2
    · rw [if_neg h3] at hh
      replace h3 := Bool.eq_false_iff.mpr h3
      refine awp_first fun K kk hK => ?_
      simp only [go_sem, h2, h3, h3, h2]
      (repeat refine sd ?_)
      refine hK _ _ fun nx => ?_; clear hK K; try clear kk
      refine awp_false rfl ?_
      refine awp_skip ?_; refine nmx ?_
      refine awp_first fun K kk hK => ?_
      simp only [go_sem]
      refine hK _ _ fun nx => ?_; clear hK K; try clear kk
      refine awp_ret ?_; refine nmx ?_
      obtain hR := Option.some.inj hh
      subst hR
      exact ret_p2

end Go.Proofs.YtpjdafhmneiohaaDoor
