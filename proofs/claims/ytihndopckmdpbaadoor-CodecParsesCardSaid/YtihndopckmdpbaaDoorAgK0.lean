/- What the functions answer, the program answers (0). -/
import Derived.Test.YtihndopckmdpbaaDoorAgC
import Derived.Test.YtihndopckmdpbaaDoorAgF
import Derived.Test.YtihndopckmdpbaaDoorAgL
namespace Go.Proofs.YtihndopckmdpbaaDoor
set_option linter.unusedSimpArgs false
set_option linter.unusedVariables false
open Go
set_option maxRecDepth 100000

theorem node_isText_ok (n_1 : api_Node) (R : Bool) (hh : node_isText n_1 = some R) : PC Tryd.prog 49 [.agg [.str n_1.Kind, .str n_1.Text, .list 1 (n_1.Marks.map PV.str), .list 2 (n_1.Attrs.map api_Attr.pv), .list 5 (n_1.Kids.map api_Node.pv)]] (.bool R) := by
  rw [node_isText] at hh
  refine start_node_isText rfl ?_
  refine awp_first fun K kk hK => ?_
  simp only [go_sem]
  refine hK _ _ fun nx => ?_; clear hK K; try clear kk
  refine awp_first fun K kk hK => ?_
  simp only [go_sem]
  refine hK _ _ fun nx => ?_; clear hK K; try clear kk
  refine awp_ret ?_; refine nmx ?_
  obtain hR := Option.some.inj hh
  subst hR
  exact ret_p2
theorem node_Depth_grp : ∀ kr : Nat, (∀ (n_1 : api_Node) (R : Int), node_Depth_k kr n_1 = some R → PC Tryd.prog 30 [.agg [.str n_1.Kind, .str n_1.Text, .list 1 (n_1.Marks.map PV.str), .list 2 (n_1.Attrs.map api_Attr.pv), .list 5 (n_1.Kids.map api_Node.pv)]] (.int .i64 R)) := by
  intro kr
  induction kr with
  | zero => exact (by intro n_1 R hh; rw [node_Depth_k] at hh; cases hh)
  | succ kr ih =>
    have ih_node_Depth := ih
    clear ih
    intro n_1 R hh
    rw [node_Depth_k] at hh
    refine start_node_Depth rfl ?_
    refine awp_first fun K kk hK => ?_
    simp only [go_sem]
    refine hK _ _ fun nx => ?_; clear hK K; try clear kk
    refine awp_seq ?_
    obtain ⟨istext_2, h1, hh⟩ := bind_ex hh
    refine awp_first fun K kk hK => ?_
    simp only [go_sem]
    refine step_call2 (node_isText_ok _ _ h1) (by (try simp only [go_sem]) <;> exact wkl) (by rfl) (by rfl) ?_
    simp only [go_sem]
    refine hK _ _ fun nx => ?_; clear hK K; try clear kk
    by_cases h2 : (istext_2) = true
    · rw [if_pos h2] at hh
      refine awp_true (by first | exact congrArg PV.bool h2 | rfl) ?_
      refine awp_first fun K kk hK => ?_
      simp only [go_sem]
      refine hK _ _ fun nx => ?_; clear hK K; try clear kk
      refine awp_ret ?_; refine nmx ?_
      obtain hR := Option.some.inj hh
      subst hR
      exact ret_p2
    · rw [if_neg h2] at hh
      replace h2 := Bool.eq_false_iff.mpr h2
      refine awp_false (by first | exact congrArg PV.bool h2 | rfl) ?_
      refine awp_skip ?_; refine nmx ?_
      refine awp_first fun K kk hK => ?_
      simp only [go_sem]
      refine hK _ _ fun nx => ?_; clear hK K; try clear kk
      refine awp_seq ?_
      refine awp_first fun K kk hK => ?_
      simp only [go_sem]
      refine hK _ _ fun nx => ?_; clear hK K; try clear kk
      obtain ⟨e0, f0, hh⟩ := bind_ex hh
      obtain ⟨hlen0, f0⟩ := chk_some f0
      refine awp_fragE (CutTo (fun s => ∃ deepest_11, deepest_11 = e0 ∧ ∃ (v_12 : Int) (v_13 : Bool) (nx : Nat), s = ⟨[(3, .int .i64 deepest_11), (9, .list 5 (n_1.Kids.map api_Node.pv)), (10, .int .i64 (n_1.Kids.length : Int)), (11, .int .i64 v_12), (12, .bool v_13)], [], nx⟩))
        (fun i s => False)
        (fun s => False) ?_ ?_ ?_ ?_
      · refine awp_block ?_
        refine awp_loopJ fun I hI => ?_
        have key : ∀ (suf pre : List api_Node) (v_6 : Int) (deepest_5 : Int), n_1.Kids = pre ++ suf → v_6 = (pre.length : Int) → node_Depth_l0 (node_Depth_k kr) suf v_6 deepest_5 = some e0 → ∀ (nx : Nat), I ⟨[(3, .int .i64 deepest_5), (9, .list 5 (n_1.Kids.map api_Node.pv)), (10, .int .i64 (n_1.Kids.length : Int)), (11, .int .i64 v_6)], [], nx⟩ := by
          intro suf
          induction suf with
          | nil =>
            intro pre v_6 deepest_5 hsplit hidx hh nx
            rw [node_Depth_l0] at hh
            refine hI _ ?_
            have h9 := walk_nil hsplit hidx
            refine awp_first fun K kk hK => ?_
            simp only [go_sem]
            refine hK _ _ fun nx => ?_; clear hK K; try clear kk
            refine awp_seq ?_
            refine awp_false (by first | exact congrArg PV.bool h9 | rfl) ?_
            refine awp_exit ?_; refine nmx ?_
            refine fragN ?_
            refine cut_id ?_
            refine ⟨_, (Option.some.inj hh), ?_⟩
            first | exact ⟨_, _, _, rfl⟩ | (simp only [api_Attr.pv_eq, api_Node.pv_eq, codec_reader.pv_eq, diptychref2_Reader.pv_eq, pvL, List.map_cons, List.map_nil, List.map_append, rune1]; exact ⟨_, _, _, rfl⟩) | (simp only [api_Attr.pv_eq, api_Node.pv_eq, codec_reader.pv_eq, diptychref2_Reader.pv_eq, pvL, List.map_cons, List.map_nil, List.map_append, rune1, h2, h9]; exact ⟨_, _, _, rfl⟩)
          | cons y_9 suf ih =>
            intro pre v_6 deepest_5 hsplit hidx hh nx
            rw [node_Depth_l0] at hh
            refine hI _ ?_
            obtain ⟨hl0a, hl0b, hl0d, hl0w, h9⟩ := walk_cons (f := api_Node.pv) hsplit hidx hlen0
            refine awp_first fun K kk hK => ?_
            simp only [go_sem]
            refine hK _ _ fun nx => ?_; clear hK K; try clear kk
            refine awp_seq ?_
            refine awp_true (by first | exact congrArg PV.bool h9 | rfl) ?_
            refine awp_skip ?_; refine nmx ?_
            refine awp_seq ?_
            refine awp_block ?_
            refine awp_first fun K kk hK => ?_
            simp only [go_sem, hl0a, hl0b, hl0d, hl0w]
            refine hK _ _ fun nx => ?_; clear hK K; try clear kk
            obtain ⟨depth_10, h10, hh⟩ := bind_ex hh
            refine awp_region fun K kk hK => ?_
            simp only [go_sem, hl0a, hl0b, hl0d, hl0w]
            refine step_call2 (ih_node_Depth _ _ h10) (by (try simp only [go_sem, hl0a, hl0b, hl0d, hl0w]) <;> exact wkl) (by rfl) (by rfl) ?_
            simp only [go_sem, hl0a, hl0b, hl0d, hl0w]
            refine hK _ _ fun nx => ?_; clear hK K; try clear kk
            refine nmx ?_
            refine awp_region fun K kk hK => ?_
            simp only [go_sem, hl0a, hl0b, hl0d, hl0w]
            refine hK _ _ fun nx => ?_; clear hK K; try clear kk
            refine nmx ?_
            have ih' := ih (pre ++ [y_9]) (v_6 + 1) _ (by rw [hsplit]; simp) (by simp [hidx]) hh nx
            refine cut_id ?_
            first | exact ih' | (simp only [api_Attr.pv_eq, api_Node.pv_eq, codec_reader.pv_eq, diptychref2_Reader.pv_eq, pvL, List.map_cons, List.map_nil, List.map_append, rune1] at ih' ⊢; exact ih') | (simp only [api_Attr.pv_eq, api_Node.pv_eq, codec_reader.pv_eq, diptychref2_Reader.pv_eq, pvL, List.map_cons, List.map_nil, List.map_append, rune1, h2, h9] at ih' ⊢; exact ih')
        exact key n_1.Kids [] _ _ rfl rfl f0 _
      · rintro s ⟨t, hless, deepest_11, rfl, v_12, v_13, nx, rfl⟩
        try dsimp only at hh
        refine nmy ?_
        first | (refine cut_less hless ?_; try refine cut_awp ?_) | refine frag_less hless ?_ | refine body_less hless ?_
        refine awp_first fun K kk hK => ?_
        simp only [go_sem]
        refine hK _ _ fun nx => ?_; clear hK K; try clear kk
        refine awp_ret ?_; refine nmx ?_
        obtain hR := Option.some.inj hh
        subst hR
        exact ret_p2
      · intro i s h; exact h.elim
      · intro s h; exact h.elim
theorem node_Depth_ok (n_1 : api_Node) (R : Int) (hh : node_Depth n_1 = some R) : PC Tryd.prog 30 [.agg [.str n_1.Kind, .str n_1.Text, .list 1 (n_1.Marks.map PV.str), .list 2 (n_1.Attrs.map api_Attr.pv), .list 5 (n_1.Kids.map api_Node.pv)]] (.int .i64 R) := by
  rw [node_Depth] at hh
  obtain ⟨kr, hh⟩ := lim_some hh
  exact (node_Depth_grp kr) _ _ hh
theorem unicode_utf8_ValidString_ok (s : Str) (R : Bool) (hh : unicode_utf8_ValidString s = some R) : PC Tryd.prog 48 [.str s] (.bool R) := by
  rw [unicode_utf8_ValidString] at hh
  exact lib_validString ⟨_, Tryd.func48, by kernel_rfl, by kernel_rfl⟩ (fun s w h1 h2 => Any.utf8_ValidString Tryd.lays196 s w h1 h2.1) s R hh
theorem node_Value_ok (s_1 : Str) (R : Bool) (hh : node_Value s_1 = some R) : PC Tryd.prog 28 [.str s_1] (.bool R) := by
  rw [node_Value] at hh
  refine start_node_Value rfl ?_
  refine awp_first fun K kk hK => ?_
  simp only [go_sem]
  refine hK _ _ fun nx => ?_; clear hK K; try clear kk
  by_cases h1 : (decide ((s_1.length : Int) ≤ (40 : Int))) = true
  · rw [if_pos h1] at hh
    obtain ⟨valids_2, h2, hh⟩ := bind_ex hh
    refine awp_first fun K kk hK => ?_
    simp only [go_sem, h1, of_decide_eq_true h1, h1, of_decide_eq_true h1]
    (repeat refine sd ?_)
    refine step_call2 (unicode_utf8_ValidString_ok _ _ h2) (by (try simp only [go_sem, h1, of_decide_eq_true h1, h1, of_decide_eq_true h1]) <;> exact wkl) (by rfl) (by rfl) ?_
    simp only [go_sem, h1, of_decide_eq_true h1, h1, of_decide_eq_true h1]
    (repeat refine sd ?_)
    refine hK _ _ fun nx => ?_; clear hK K; try clear kk
    refine awp_ret ?_; refine nmx ?_
    obtain hR := Option.some.inj hh
    subst hR
    exact ret_p2
  · rw [if_neg h1] at hh
    replace h1 := Bool.eq_false_iff.mpr h1
    refine awp_first fun K kk hK => ?_
    simp only [go_sem, h1, of_decide_eq_false h1, h1, of_decide_eq_false h1]
    (repeat refine sd ?_)
    refine hK _ _ fun nx => ?_; clear hK K; try clear kk
    refine awp_ret ?_; refine nmx ?_
    obtain hR := Option.some.inj hh
    subst hR
    exact ret_p2
theorem strings_Trim_ok (s : Str) (cutset : Str) (R : Str) (hh : strings_Trim s cutset = some R) : PC Tryd.prog 90 [.str s, .str cutset] (.str R) := by
  rw [strings_Trim] at hh
  exact lib_trim (tr := Lib.trimS) ⟨_, Tryd.func90, by kernel_rfl, by kernel_rfl⟩ (fun s c w h1 h2 h3 => Any.strings_Trim_laid Tryd.lays160 (by kernel_rfl) s c w h1 h2 h3) s cutset R hh
theorem node_Name_ok (s_1 : Str) (R : Bool) (hh : node_Name s_1 = some R) : PC Tryd.prog 71 [.str s_1] (.bool R) := by
  rw [node_Name] at hh
  refine start_node_Name rfl ?_
  refine awp_first fun K kk hK => ?_
  simp only [go_sem]
  refine hK _ _ fun nx => ?_; clear hK K; try clear kk
  obtain ⟨trim_2, h1, hh⟩ := bind_ex hh
  refine awp_first fun K kk hK => ?_
  simp only [go_sem]
  refine step_call2 (strings_Trim_ok _ _ _ h1) (by (try simp only [go_sem]) <;> exact wkl) (by rfl) (by rfl) ?_
  simp only [go_sem]
  refine hK _ _ fun nx => ?_; clear hK K; try clear kk
  by_cases h2 : (trim_2 == ([] : Str)) = true
  · rw [if_pos h2] at hh
    by_cases h3 : (!(s_1 == ([] : Str))) = true
    · rw [if_pos h3] at hh
      by_cases h4 : (decide ((s_1.length : Int) ≤ (8 : Int))) = true
      · rw [if_pos h4] at hh
        refine awp_first fun K kk hK => ?_
        simp only [go_sem, h2, h2, h3, h3, h4, of_decide_eq_true h4, h4, of_decide_eq_true h4]
        (repeat refine sd ?_)
        refine hK _ _ fun nx => ?_; clear hK K; try clear kk
        refine awp_ret ?_; refine nmx ?_
        obtain hR := Option.some.inj hh
        subst hR
        exact ret_p2
      · rw [if_neg h4] at hh
        replace h4 := Bool.eq_false_iff.mpr h4
        refine awp_first fun K kk hK => ?_
        simp only [go_sem, h2, h2, h3, h3, h4, of_decide_eq_false h4, h4, of_decide_eq_false h4]
        (repeat refine sd ?_)
        refine hK _ _ fun nx => ?_; clear hK K; try clear kk
        refine awp_ret ?_; refine nmx ?_
        obtain hR := Option.some.inj hh
        subst hR
        exact ret_p2
    · rw [if_neg h3] at hh
      replace h3 := Bool.eq_false_iff.mpr h3
      refine awp_first fun K kk hK => ?_
      simp only [go_sem, h2, h2, h3, h3]
      (repeat refine sd ?_)
      refine hK _ _ fun nx => ?_; clear hK K; try clear kk
      refine awp_ret ?_; refine nmx ?_
      obtain hR := Option.some.inj hh
      subst hR
      exact ret_p2
  · rw [if_neg h2] at hh
    replace h2 := Bool.eq_false_iff.mpr h2
    refine awp_first fun K kk hK => ?_
    simp only [go_sem, h2, h2]
    (repeat refine sd ?_)
    refine hK _ _ fun nx => ?_; clear hK K; try clear kk
    refine awp_ret ?_; refine nmx ?_
    obtain hR := Option.some.inj hh
    subst hR
    exact ret_p2
theorem node_rise_ok (l_1 : (List Str)) (R : Bool) (hh : node_rise l_1 = some R) : PC Tryd.prog 70 [.list 1 (l_1.map PV.str)] (.bool R) := by
  rw [node_rise] at hh
  refine start_node_rise rfl ?_
  refine awp_first fun K kk hK => ?_
  simp only [go_sem]
  refine hK _ _ fun nx => ?_; clear hK K; try clear kk
  refine awp_seq ?_
  refine awp_first fun K kk hK => ?_
  simp only [go_sem]
  refine hK _ _ fun nx => ?_; clear hK K; try clear kk
  obtain ⟨e0, f0, hh⟩ := bind_ex hh
  obtain ⟨hlen0, f0⟩ := chk_some f0
  refine awp_fragE (CutTo (fun s => .inr () = e0 ∧ ∃ (v_13 : Int) (v_14 : Bool) (nx : Nat), s = ⟨[(0, .list 1 (l_1.map PV.str)), (5, .list 1 (l_1.map PV.str)), (6, .int .i64 (l_1.length : Int)), (7, .int .i64 v_13), (8, .bool v_14)], [], nx⟩))
    (fun i s => False)
    (fun s => ∃ res_12, .inl res_12 = e0 ∧ bodyR Tryd.prog [.tmp 2] (.bool res_12) [] .ret s) ?_ ?_ ?_ ?_
  · refine awp_block ?_
    refine awp_loopJ fun I hI => ?_
    have key : ∀ (suf pre : List Str) (v_5 : Int), l_1 = pre ++ suf → v_5 = (pre.length : Int) → node_rise_l0 l_1 suf v_5 = some e0 → ∀ (nx : Nat), I ⟨[(0, .list 1 (l_1.map PV.str)), (5, .list 1 (l_1.map PV.str)), (6, .int .i64 (l_1.length : Int)), (7, .int .i64 v_5)], [], nx⟩ := by
      intro suf
      induction suf with
      | nil =>
        intro pre v_5 hsplit hidx hh nx
        rw [node_rise_l0] at hh
        refine hI _ ?_
        have h15 := walk_nil hsplit hidx
        refine awp_first fun K kk hK => ?_
        simp only [go_sem]
        refine hK _ _ fun nx => ?_; clear hK K; try clear kk
        refine awp_seq ?_
        refine awp_false (by first | exact congrArg PV.bool h15 | rfl) ?_
        refine awp_exit ?_; refine nmx ?_
        refine fragN ?_
        refine cut_id ?_
        refine ⟨(Option.some.inj hh), ?_⟩
        first | exact ⟨_, _, _, rfl⟩ | (simp only [api_Attr.pv_eq, api_Node.pv_eq, codec_reader.pv_eq, diptychref2_Reader.pv_eq, pvL, List.map_cons, List.map_nil, List.map_append, rune1]; exact ⟨_, _, _, rfl⟩) | (simp only [api_Attr.pv_eq, api_Node.pv_eq, codec_reader.pv_eq, diptychref2_Reader.pv_eq, pvL, List.map_cons, List.map_nil, List.map_append, rune1, h15]; exact ⟨_, _, _, rfl⟩)
      | cons y_9 suf ih =>
        intro pre v_5 hsplit hidx hh nx
        rw [node_rise_l0] at hh
        refine hI _ ?_
        obtain ⟨hl0a, hl0b, hl0d, hl0w, h15⟩ := walk_cons (f := PV.str) hsplit hidx hlen0
        refine awp_first fun K kk hK => ?_
        simp only [go_sem]
        refine hK _ _ fun nx => ?_; clear hK K; try clear kk
        refine awp_seq ?_
        refine awp_true (by first | exact congrArg PV.bool h15 | rfl) ?_
        refine awp_skip ?_; refine nmx ?_
        refine awp_seq ?_
        refine awp_block ?_
        refine awp_first fun K kk hK => ?_
        simp only [go_sem, hl0a, hl0b, hl0d, hl0w]
        refine hK _ _ fun nx => ?_; clear hK K; try clear kk
        obtain ⟨name_10, h16, hh⟩ := bind_ex hh
        by_cases h17 : (!name_10) = true
        · rw [if_pos h17] at hh
          refine awp_first fun K kk hK => ?_
          simp only [go_sem, h17, h17, hl0a, hl0b, hl0d, hl0w]
          (repeat refine sd ?_)
          refine step_call2 (node_Name_ok _ _ h16) (by (try simp only [go_sem, h17, h17, hl0a, hl0b, hl0d, hl0w]) <;> exact wkl) (by rfl) (by rfl) ?_
          simp only [go_sem, h17, h17, hl0a, hl0b, hl0d, hl0w]
          (repeat refine sd ?_)
          refine hK _ _ fun nx => ?_; clear hK K; try clear kk
          refine awp_true rfl ?_
          refine awp_first fun K kk hK => ?_
          simp only [go_sem, hl0a, hl0b, hl0d, hl0w]
          refine hK _ _ fun nx => ?_; clear hK K; try clear kk
          refine awp_ret ?_; refine nmx ?_
          refine fragR ⟨_, (Option.some.inj hh), ?_⟩
          exact ret_p2
        · rw [if_neg h17] at hh
          replace h17 := Bool.eq_false_iff.mpr h17
          by_cases h18 : (decide (v_5 > (0 : Int))) = true
          · rw [if_pos h18] at hh
            obtain ⟨x_11, h19, hh⟩ := bind_ex hh
            obtain ⟨h19a, h19b, h19c⟩ := rd_some h19
            have h19d := rd_get (f := PV.str) h19c
            have h19f := rd_more (f := PV.str) h19c
            try simp only [Int.toNat_natCast, Int.reduceToNat] at h19d h19f
            refine awp_first fun K kk hK => ?_
            simp only [go_sem, h17, h18, of_decide_eq_true h18, h19a, h19b, h19d, h19f.1, h19f.2, h18, of_decide_eq_true h18, h17, hl0a, hl0b, hl0d, hl0w]
            (repeat refine sd ?_)
            refine step_call2 (node_Name_ok _ _ h16) (by (try simp only [go_sem, h17, h18, of_decide_eq_true h18, h19a, h19b, h19d, h19f.1, h19f.2, h18, of_decide_eq_true h18, h17, hl0a, hl0b, hl0d, hl0w]) <;> exact wkl) (by rfl) (by rfl) ?_
            simp only [go_sem, h17, h18, of_decide_eq_true h18, h19a, h19b, h19d, h19f.1, h19f.2, h18, of_decide_eq_true h18, h17, hl0a, hl0b, hl0d, hl0w]
            (repeat refine sd ?_)
            refine hK _ _ fun nx => ?_; clear hK K; try clear kk
            by_cases h20 : ((Op.bytesLess y_9 x_11 || y_9 == x_11)) = true
            · rw [if_pos h20] at hh
              refine awp_true (by first | exact congrArg PV.bool h20 | rfl) ?_
              refine awp_first fun K kk hK => ?_
              simp only [go_sem, hl0a, hl0b, hl0d, hl0w]
              refine hK _ _ fun nx => ?_; clear hK K; try clear kk
              refine awp_ret ?_; refine nmx ?_
              refine fragR ⟨_, (Option.some.inj hh), ?_⟩
              exact ret_p2
            · rw [if_neg h20] at hh
              replace h20 := Bool.eq_false_iff.mpr h20
              refine awp_false (by first | exact congrArg PV.bool h20 | rfl) ?_
              refine awp_skip ?_; refine nmx ?_
              refine awp_region fun K kk hK => ?_
              simp only [go_sem, hl0a, hl0b, hl0d, hl0w]
              refine hK _ _ fun nx => ?_; clear hK K; try clear kk
              refine nmx ?_
              have ih' := ih (pre ++ [y_9]) (v_5 + 1) (by rw [hsplit]; simp) (by simp [hidx]) hh nx
              refine cut_id ?_
              first | exact ih' | (simp only [api_Attr.pv_eq, api_Node.pv_eq, codec_reader.pv_eq, diptychref2_Reader.pv_eq, pvL, List.map_cons, List.map_nil, List.map_append, rune1] at ih' ⊢; exact ih') | (simp only [api_Attr.pv_eq, api_Node.pv_eq, codec_reader.pv_eq, diptychref2_Reader.pv_eq, pvL, List.map_cons, List.map_nil, List.map_append, rune1, h15, h17, h18, h20] at ih' ⊢; exact ih')
          · rw [if_neg h18] at hh
            replace h18 := Bool.eq_false_iff.mpr h18
            refine awp_first fun K kk hK => ?_
            simp only [go_sem, h17, h18, of_decide_eq_false h18, h18, of_decide_eq_false h18, h17, hl0a, hl0b, hl0d, hl0w]
            (repeat refine sd ?_)
            refine step_call2 (node_Name_ok _ _ h16) (by (try simp only [go_sem, h17, h18, of_decide_eq_false h18, h18, of_decide_eq_false h18, h17, hl0a, hl0b, hl0d, hl0w]) <;> exact wkl) (by rfl) (by rfl) ?_
            simp only [go_sem, h17, h18, of_decide_eq_false h18, h18, of_decide_eq_false h18, h17, hl0a, hl0b, hl0d, hl0w]
            (repeat refine sd ?_)
            refine hK _ _ fun nx => ?_; clear hK K; try clear kk
            refine awp_false rfl ?_
            refine awp_skip ?_; refine nmx ?_
            refine awp_region fun K kk hK => ?_
            simp only [go_sem, hl0a, hl0b, hl0d, hl0w]
            refine hK _ _ fun nx => ?_; clear hK K; try clear kk
            refine nmx ?_
            have ih' := ih (pre ++ [y_9]) (v_5 + 1) (by rw [hsplit]; simp) (by simp [hidx]) hh nx
            refine cut_id ?_
            first | exact ih' | (simp only [api_Attr.pv_eq, api_Node.pv_eq, codec_reader.pv_eq, diptychref2_Reader.pv_eq, pvL, List.map_cons, List.map_nil, List.map_append, rune1] at ih' ⊢; exact ih') | (simp only [api_Attr.pv_eq, api_Node.pv_eq, codec_reader.pv_eq, diptychref2_Reader.pv_eq, pvL, List.map_cons, List.map_nil, List.map_append, rune1, h15, h17, h18] at ih' ⊢; exact ih')
    exact key l_1 [] _ rfl rfl f0 _
  · rintro s ⟨t, hless, rfl, v_13, v_14, nx, rfl⟩
    try dsimp only at hh
    refine nmy ?_
    first | (refine cut_less hless ?_; try refine cut_awp ?_) | refine frag_less hless ?_ | refine body_less hless ?_
    refine awp_first fun K kk hK => ?_
    simp only [go_sem]
    refine hK _ _ fun nx => ?_; clear hK K; try clear kk
    refine awp_ret ?_; refine nmx ?_
    obtain hR := Option.some.inj hh
    subst hR
    exact ret_p2
  · intro i s h; exact h.elim
  · rintro s ⟨res_12, rfl, hb⟩
    try dsimp only at hh
    obtain hR := Option.some.inj hh
    subst hR
    refine nmx ?_
    exact hb
theorem slices_Equal_string_ok (s1_1 : (List Str)) (s2_2 : (List Str)) (R : Bool) (hh : slices_Equal_string s1_1 s2_2 = some R) : PC Tryd.prog 41 [.list 1 (s1_1.map PV.str), .list 1 (s2_2.map PV.str)] (.bool R) := by
  rw [slices_Equal_string] at hh
  refine start_slices_Equal_string rfl ?_
  refine awp_first fun K kk hK => ?_
  simp only [go_sem]
  refine hK _ _ fun nx => ?_; clear hK K; try clear kk
  refine awp_seq ?_
  refine awp_first fun K kk hK => ?_
  simp only [go_sem]
  refine hK _ _ fun nx => ?_; clear hK K; try clear kk
  by_cases h1 : ((s1_1.length : Int) != (s2_2.length : Int)) = true
  · rw [if_pos h1] at hh
    refine awp_true (by first | exact congrArg PV.bool h1 | rfl) ?_
    refine awp_first fun K kk hK => ?_
    simp only [go_sem]
    refine hK _ _ fun nx => ?_; clear hK K; try clear kk
    refine awp_ret ?_; refine nmx ?_
    obtain hR := Option.some.inj hh
    subst hR
    exact ret_p2
  · rw [if_neg h1] at hh
    replace h1 := Bool.eq_false_iff.mpr h1
    refine awp_false (by first | exact congrArg PV.bool h1 | rfl) ?_
    refine awp_skip ?_; refine nmx ?_
    refine awp_seq ?_
    refine awp_first fun K kk hK => ?_
    simp only [go_sem]
    refine hK _ _ fun nx => ?_; clear hK K; try clear kk
    obtain ⟨e0, f0, hh⟩ := bind_ex hh
    obtain ⟨hlen0, f0⟩ := chk_some f0
    refine awp_fragE (CutTo (fun s => .inr () = e0 ∧ ∃ (v_11 : Int) (v_12 : Bool) (nx : Nat), s = ⟨[(0, .list 1 (s1_1.map PV.str)), (1, .list 1 (s2_2.map PV.str)), (12, .int .i64 (s1_1.length : Int)), (13, .int .i64 v_11), (14, .bool v_12)], [], nx⟩))
      (fun i s => False)
      (fun s => ∃ res_10, .inl res_10 = e0 ∧ bodyR Tryd.prog [.tmp 4] (.bool res_10) [] .ret s) ?_ ?_ ?_ ?_
    · refine awp_block ?_
      refine awp_loopJ fun I hI => ?_
      have key : ∀ (suf pre : List Str) (v_5 : Int), s1_1 = pre ++ suf → v_5 = (pre.length : Int) → slices_Equal_string_l0 s2_2 suf v_5 = some e0 → ∀ (nx : Nat), I ⟨[(0, .list 1 (s1_1.map PV.str)), (1, .list 1 (s2_2.map PV.str)), (12, .int .i64 (s1_1.length : Int)), (13, .int .i64 v_5)], [], nx⟩ := by
        intro suf
        induction suf with
        | nil =>
          intro pre v_5 hsplit hidx hh nx
          rw [slices_Equal_string_l0] at hh
          refine hI _ ?_
          have h10 := walk_nil hsplit hidx
          refine awp_first fun K kk hK => ?_
          simp only [go_sem]
          refine hK _ _ fun nx => ?_; clear hK K; try clear kk
          refine awp_seq ?_
          refine awp_false (by first | exact congrArg PV.bool h10 | rfl) ?_
          refine awp_exit ?_; refine nmx ?_
          refine fragN ?_
          refine cut_id ?_
          refine ⟨(Option.some.inj hh), ?_⟩
          first | exact ⟨_, _, _, rfl⟩ | (simp only [api_Attr.pv_eq, api_Node.pv_eq, codec_reader.pv_eq, diptychref2_Reader.pv_eq, pvL, List.map_cons, List.map_nil, List.map_append, rune1]; exact ⟨_, _, _, rfl⟩) | (simp only [api_Attr.pv_eq, api_Node.pv_eq, codec_reader.pv_eq, diptychref2_Reader.pv_eq, pvL, List.map_cons, List.map_nil, List.map_append, rune1, h1, h10]; exact ⟨_, _, _, rfl⟩)
        | cons y_8 suf ih =>
          intro pre v_5 hsplit hidx hh nx
          rw [slices_Equal_string_l0] at hh
          refine hI _ ?_
          obtain ⟨hl0a, hl0b, hl0d, hl0w, h10⟩ := walk_cons (f := PV.str) hsplit hidx hlen0
          refine awp_first fun K kk hK => ?_
          simp only [go_sem]
          refine hK _ _ fun nx => ?_; clear hK K; try clear kk
          refine awp_seq ?_
          refine awp_true (by first | exact congrArg PV.bool h10 | rfl) ?_
          refine awp_skip ?_; refine nmx ?_
          refine awp_seq ?_
          refine awp_block ?_
          refine awp_first fun K kk hK => ?_
          simp only [go_sem, hl0a, hl0b, hl0d, hl0w]
          refine hK _ _ fun nx => ?_; clear hK K; try clear kk
          obtain ⟨x_9, h11, hh⟩ := bind_ex hh
          obtain ⟨h11a, h11b, h11c⟩ := rd_some h11
          have h11d := rd_get (f := PV.str) h11c
          have h11f := rd_more (f := PV.str) h11c
          try simp only [Int.toNat_natCast, Int.reduceToNat] at h11d h11f
          refine awp_first fun K kk hK => ?_
          simp only [go_sem, h11a, h11b, h11d, h11f.1, h11f.2, hl0a, hl0b, hl0d, hl0w]
          (repeat refine sd ?_)
          refine hK _ _ fun nx => ?_; clear hK K; try clear kk
          by_cases h12 : (!(y_8 == x_9)) = true
          · rw [if_pos h12] at hh
            refine awp_true (by first | exact congrArg PV.bool h12 | rfl) ?_
            refine awp_first fun K kk hK => ?_
            simp only [go_sem, hl0a, hl0b, hl0d, hl0w]
            refine hK _ _ fun nx => ?_; clear hK K; try clear kk
            refine awp_ret ?_; refine nmx ?_
            refine fragR ⟨_, (Option.some.inj hh), ?_⟩
            exact ret_p2
          · rw [if_neg h12] at hh
            replace h12 := Bool.eq_false_iff.mpr h12
            refine awp_false (by first | exact congrArg PV.bool h12 | rfl) ?_
            refine awp_skip ?_; refine nmx ?_
            refine awp_region fun K kk hK => ?_
            simp only [go_sem, hl0a, hl0b, hl0d, hl0w]
            refine hK _ _ fun nx => ?_; clear hK K; try clear kk
            refine nmx ?_
            have ih' := ih (pre ++ [y_8]) (v_5 + 1) (by rw [hsplit]; simp) (by simp [hidx]) hh nx
            refine cut_id ?_
            first | exact ih' | (simp only [api_Attr.pv_eq, api_Node.pv_eq, codec_reader.pv_eq, diptychref2_Reader.pv_eq, pvL, List.map_cons, List.map_nil, List.map_append, rune1] at ih' ⊢; exact ih') | (simp only [api_Attr.pv_eq, api_Node.pv_eq, codec_reader.pv_eq, diptychref2_Reader.pv_eq, pvL, List.map_cons, List.map_nil, List.map_append, rune1, h1, h10, h12] at ih' ⊢; exact ih')
      exact key s1_1 [] _ rfl rfl f0 _
    · rintro s ⟨t, hless, rfl, v_11, v_12, nx, rfl⟩
      try dsimp only at hh
      refine nmy ?_
      first | (refine cut_less hless ?_; try refine cut_awp ?_) | refine frag_less hless ?_ | refine body_less hless ?_
      refine awp_first fun K kk hK => ?_
      simp only [go_sem]
      refine hK _ _ fun nx => ?_; clear hK K; try clear kk
      refine awp_ret ?_; refine nmx ?_
      obtain hR := Option.some.inj hh
      subst hR
      exact ret_p2
    · intro i s h; exact h.elim
    · rintro s ⟨res_10, rfl, hb⟩
      try dsimp only at hh
      obtain hR := Option.some.inj hh
      subst hR
      refine nmx ?_
      exact hb
theorem node_alike_ok (a_1 : api_Node) (b_2 : api_Node) (R : Bool) (hh : node_alike a_1 b_2 = some R) : PC Tryd.prog 72 [.agg [.str a_1.Kind, .str a_1.Text, .list 1 (a_1.Marks.map PV.str), .list 2 (a_1.Attrs.map api_Attr.pv), .list 5 (a_1.Kids.map api_Node.pv)], .agg [.str b_2.Kind, .str b_2.Text, .list 1 (b_2.Marks.map PV.str), .list 2 (b_2.Attrs.map api_Attr.pv), .list 5 (b_2.Kids.map api_Node.pv)]] (.bool R) := by
  rw [node_alike] at hh
  refine start_node_alike rfl ?_
  refine awp_first fun K kk hK => ?_
  simp only [go_sem]
  refine hK _ _ fun nx => ?_; clear hK K; try clear kk
  obtain ⟨istext_3, h1, hh⟩ := bind_ex hh
  by_cases h2 : (istext_3) = true
  · rw [if_pos h2] at hh
    obtain ⟨istext_4, h3, hh⟩ := bind_ex hh
    by_cases h4 : (istext_4) = true
    · rw [if_pos h4] at hh
      obtain ⟨string_5, h5, hh⟩ := bind_ex hh
      refine awp_first fun K kk hK => ?_
      simp only [go_sem, h2, h2, h4, h4]
      (repeat refine sd ?_)
      refine step_call2 (node_isText_ok _ _ h1) (by (try simp only [go_sem, h2, h2, h4, h4]) <;> exact wkl) (by rfl) (by rfl) ?_
      simp only [go_sem, h2, h2, h4, h4]
      (repeat refine sd ?_)
      refine step_call2 (node_isText_ok _ _ h3) (by (try simp only [go_sem, h2, h2, h4, h4]) <;> exact wkl) (by rfl) (by rfl) ?_
      simp only [go_sem, h2, h2, h4, h4]
      (repeat refine sd ?_)
      refine step_call2 (slices_Equal_string_ok _ _ _ h5) (by (try simp only [go_sem, h2, h2, h4, h4]) <;> exact wkl) (by rfl) (by rfl) ?_
      simp only [go_sem, h2, h2, h4, h4]
      (repeat refine sd ?_)
      refine hK _ _ fun nx => ?_; clear hK K; try clear kk
      refine awp_ret ?_; refine nmx ?_
      obtain hR := Option.some.inj hh
      subst hR
      exact ret_p2
    · rw [if_neg h4] at hh
      replace h4 := Bool.eq_false_iff.mpr h4
      refine awp_first fun K kk hK => ?_
      simp only [go_sem, h2, h2, h4, h4]
      (repeat refine sd ?_)
      refine step_call2 (node_isText_ok _ _ h1) (by (try simp only [go_sem, h2, h2, h4, h4]) <;> exact wkl) (by rfl) (by rfl) ?_
      simp only [go_sem, h2, h2, h4, h4]
      (repeat refine sd ?_)
      refine step_call2 (node_isText_ok _ _ h3) (by (try simp only [go_sem, h2, h2, h4, h4]) <;> exact wkl) (by rfl) (by rfl) ?_
      simp only [go_sem, h2, h2, h4, h4]
      (repeat refine sd ?_)
      refine hK _ _ fun nx => ?_; clear hK K; try clear kk
      refine awp_ret ?_; refine nmx ?_
      obtain hR := Option.some.inj hh
      subst hR
      exact ret_p2
  · rw [if_neg h2] at hh
    replace h2 := Bool.eq_false_iff.mpr h2
    refine awp_first fun K kk hK => ?_
    simp only [go_sem, h2, h2]
    (repeat refine sd ?_)
    refine step_call2 (node_isText_ok _ _ h1) (by (try simp only [go_sem, h2, h2]) <;> exact wkl) (by rfl) (by rfl) ?_
    simp only [go_sem, h2, h2]
    (repeat refine sd ?_)
    refine hK _ _ fun nx => ?_; clear hK K; try clear kk
    refine awp_ret ?_; refine nmx ?_
    obtain hR := Option.some.inj hh
    subst hR
    exact ret_p2
theorem node_formed_grp : ∀ kr : Nat, (∀ (n_1 : api_Node) (R : Bool), node_formed_k kr n_1 = some R → PC Tryd.prog 50 [.agg [.str n_1.Kind, .str n_1.Text, .list 1 (n_1.Marks.map PV.str), .list 2 (n_1.Attrs.map api_Attr.pv), .list 5 (n_1.Kids.map api_Node.pv)]] (.bool R)) := by
  intro kr
  induction kr with
  | zero => exact (by intro n_1 R hh; rw [node_formed_k] at hh; cases hh)
  | succ kr ih =>
    have ih_node_formed := ih
    clear ih
    intro n_1 R hh
    rw [node_formed_k] at hh
    refine start_node_formed rfl ?_
    refine awp_first fun K kk hK => ?_
    simp only [go_sem]
    refine hK _ _ fun nx => ?_; clear hK K; try clear kk
    refine awp_seq ?_
    obtain ⟨istext_2, h1, hh⟩ := bind_ex hh
    refine awp_first fun K kk hK => ?_
    simp only [go_sem]
    refine step_call2 (node_isText_ok _ _ h1) (by (try simp only [go_sem]) <;> exact wkl) (by rfl) (by rfl) ?_
    simp only [go_sem]
    refine hK _ _ fun nx => ?_; clear hK K; try clear kk
    by_cases h2 : (istext_2) = true
    · rw [if_pos h2] at hh
      refine awp_true (by first | exact congrArg PV.bool h2 | rfl) ?_
      by_cases h3 : (!(n_1.Text == ([] : Str))) = true
      · rw [if_pos h3] at hh
        obtain ⟨valids_3, h4, hh⟩ := bind_ex hh
        by_cases h5 : (valids_3) = true
        · rw [if_pos h5] at hh
          obtain ⟨rise_4, h6, hh⟩ := bind_ex hh
          by_cases h7 : (rise_4) = true
          · rw [if_pos h7] at hh
            refine awp_first fun K kk hK => ?_
            simp only [go_sem, h3, h3, h5, h5, h7, h7]
            (repeat refine sd ?_)
            refine step_call2 (unicode_utf8_ValidString_ok _ _ h4) (by (try simp only [go_sem, h3, h3, h5, h5, h7, h7]) <;> exact wkl) (by rfl) (by rfl) ?_
            simp only [go_sem, h3, h3, h5, h5, h7, h7]
            (repeat refine sd ?_)
            refine step_call2 (node_rise_ok _ _ h6) (by (try simp only [go_sem, h3, h3, h5, h5, h7, h7]) <;> exact wkl) (by rfl) (by rfl) ?_
            simp only [go_sem, h3, h3, h5, h5, h7, h7]
            (repeat refine sd ?_)
            refine hK _ _ fun nx => ?_; clear hK K; try clear kk
            refine awp_ret ?_; refine nmx ?_
            obtain hR := Option.some.inj hh
            subst hR
            exact ret_p2
          · rw [if_neg h7] at hh
            replace h7 := Bool.eq_false_iff.mpr h7
            refine awp_first fun K kk hK => ?_
            simp only [go_sem, h3, h3, h5, h5, h7, h7]
            (repeat refine sd ?_)
            refine step_call2 (unicode_utf8_ValidString_ok _ _ h4) (by (try simp only [go_sem, h3, h3, h5, h5, h7, h7]) <;> exact wkl) (by rfl) (by rfl) ?_
            simp only [go_sem, h3, h3, h5, h5, h7, h7]
            (repeat refine sd ?_)
            refine step_call2 (node_rise_ok _ _ h6) (by (try simp only [go_sem, h3, h3, h5, h5, h7, h7]) <;> exact wkl) (by rfl) (by rfl) ?_
            simp only [go_sem, h3, h3, h5, h5, h7, h7]
            (repeat refine sd ?_)
            refine hK _ _ fun nx => ?_; clear hK K; try clear kk
            refine awp_ret ?_; refine nmx ?_
            obtain hR := Option.some.inj hh
            subst hR
            exact ret_p2
        · rw [if_neg h5] at hh
          replace h5 := Bool.eq_false_iff.mpr h5
          refine awp_first fun K kk hK => ?_
          simp only [go_sem, h3, h3, h5, h5]
          (repeat refine sd ?_)
          refine step_call2 (unicode_utf8_ValidString_ok _ _ h4) (by (try simp only [go_sem, h3, h3, h5, h5]) <;> exact wkl) (by rfl) (by rfl) ?_
          simp only [go_sem, h3, h3, h5, h5]
          (repeat refine sd ?_)
          refine hK _ _ fun nx => ?_; clear hK K; try clear kk
          refine awp_ret ?_; refine nmx ?_
          obtain hR := Option.some.inj hh
          subst hR
          exact ret_p2
      · rw [if_neg h3] at hh
        replace h3 := Bool.eq_false_iff.mpr h3
        refine awp_first fun K kk hK => ?_
        simp only [go_sem, h3, h3]
        (repeat refine sd ?_)
        refine hK _ _ fun nx => ?_; clear hK K; try clear kk
        refine awp_ret ?_; refine nmx ?_
        obtain hR := Option.some.inj hh
        subst hR
        exact ret_p2
    · rw [if_neg h2] at hh
      replace h2 := Bool.eq_false_iff.mpr h2
      refine awp_false (by first | exact congrArg PV.bool h2 | rfl) ?_
      refine awp_skip ?_; refine nmx ?_
      refine awp_first fun K kk hK => ?_
      simp only [go_sem]
      refine hK _ _ fun nx => ?_; clear hK K; try clear kk
      refine awp_seq ?_
      refine awp_first fun K kk hK => ?_
      simp only [go_sem]
      refine hK _ _ fun nx => ?_; clear hK K; try clear kk
      obtain ⟨e0, f0, hh⟩ := bind_ex hh
      obtain ⟨hlen0, f0⟩ := chk_some f0
      refine awp_fragE (CutTo (fun s => ∃ names_19, .inr names_19 = e0 ∧ ∃ (v_17 : Int) (v_18 : Bool) (nx : Nat) (g1 : Nat) (g3 : Nat), s = ⟨[(1, .box 1 g1 0), (3, .row 3 g3 names_19.length), (34, .list 2 (n_1.Attrs.map api_Attr.pv)), (35, .int .i64 (n_1.Attrs.length : Int)), (36, .int .i64 v_17), (37, .bool v_18)], [(1, g1, .var 26 [.str n_1.Kind, .str n_1.Text, .list 1 (n_1.Marks.map PV.str), .list 2 (n_1.Attrs.map api_Attr.pv), .list 5 (n_1.Kids.map api_Node.pv)]), (3, g3, .row false 1 (names_19.map PV.str))], nx⟩))
        (fun i s => False)
        (fun s => ∃ res_16, .inl res_16 = e0 ∧ bodyR Tryd.prog [.tmp 2] (.bool res_16) [] .ret s) ?_ ?_ ?_ ?_
      · refine awp_block ?_
        refine awp_loopJ fun I hI => ?_
        have key : ∀ (suf pre : List api_Attr) (v_8 : Int) (names_9 : (List Str)), n_1.Attrs = pre ++ suf → v_8 = (pre.length : Int) → node_formed_l0 suf v_8 names_9 = some e0 → ∀ (nx : Nat) (g1 : Nat) (g3 : Nat), I ⟨[(1, .box 1 g1 0), (3, .row 3 g3 names_9.length), (34, .list 2 (n_1.Attrs.map api_Attr.pv)), (35, .int .i64 (n_1.Attrs.length : Int)), (36, .int .i64 v_8)], [(1, g1, .var 26 [.str n_1.Kind, .str n_1.Text, .list 1 (n_1.Marks.map PV.str), .list 2 (n_1.Attrs.map api_Attr.pv), .list 5 (n_1.Kids.map api_Node.pv)]), (3, g3, .row false 1 (names_9.map PV.str))], nx⟩ := by
          intro suf
          induction suf with
          | nil =>
            intro pre v_8 names_9 hsplit hidx hh nx g1 g3
            rw [node_formed_l0] at hh
            refine hI _ ?_
            have h18 := walk_nil hsplit hidx
            refine awp_first fun K kk hK => ?_
            simp only [go_sem]
            refine hK _ _ fun nx => ?_; clear hK K; try clear kk
            refine awp_seq ?_
            refine awp_false (by first | exact congrArg PV.bool h18 | rfl) ?_
            refine awp_exit ?_; refine nmx ?_
            refine fragN ?_
            refine cut_id ?_
            refine ⟨_, (Option.some.inj hh), ?_⟩
            first | exact ⟨_, _, _, _, _, rfl⟩ | (simp only [api_Attr.pv_eq, api_Node.pv_eq, codec_reader.pv_eq, diptychref2_Reader.pv_eq, pvL, List.map_cons, List.map_nil, List.map_append, rune1]; exact ⟨_, _, _, _, _, rfl⟩) | (simp only [api_Attr.pv_eq, api_Node.pv_eq, codec_reader.pv_eq, diptychref2_Reader.pv_eq, pvL, List.map_cons, List.map_nil, List.map_append, rune1, h18, h2]; exact ⟨_, _, _, _, _, rfl⟩)
          | cons y_13 suf ih =>
            intro pre v_8 names_9 hsplit hidx hh nx g1 g3
            rw [node_formed_l0] at hh
            refine hI _ ?_
            obtain ⟨hl0a, hl0b, hl0d, hl0w, h18⟩ := walk_cons (f := api_Attr.pv) hsplit hidx hlen0
            refine awp_first fun K kk hK => ?_
            simp only [go_sem]
            refine hK _ _ fun nx => ?_; clear hK K; try clear kk
            refine awp_seq ?_
            refine awp_true (by first | exact congrArg PV.bool h18 | rfl) ?_
            refine awp_skip ?_; refine nmx ?_
            refine awp_seq ?_
            refine awp_block ?_
            refine awp_first fun K kk hK => ?_
            simp only [go_sem, hl0a, hl0b, hl0d, hl0w]
            refine hK _ _ fun nx => ?_; clear hK K; try clear kk
            refine awp_seq ?_
            obtain ⟨value_14, h19, hh⟩ := bind_ex hh
            refine awp_first fun K kk hK => ?_
            simp only [go_sem, hl0a, hl0b, hl0d, hl0w]
            refine step_call2 (node_Value_ok _ _ h19) (by (try simp only [go_sem, hl0a, hl0b, hl0d, hl0w]) <;> exact wkl) (by rfl) (by rfl) ?_
            simp only [go_sem, hl0a, hl0b, hl0d, hl0w]
            refine hK _ _ fun nx => ?_; clear hK K; try clear kk
            by_cases h20 : (!value_14) = true
            · rw [if_pos h20] at hh
              refine awp_true (by first | exact congrArg PV.bool h20 | rfl) ?_
              refine awp_first fun K kk hK => ?_
              simp only [go_sem, hl0a, hl0b, hl0d, hl0w]
              refine hK _ _ fun nx => ?_; clear hK K; try clear kk
              refine awp_ret ?_; refine nmx ?_
              refine fragR ⟨_, (Option.some.inj hh), ?_⟩
              exact ret_p2
            · rw [if_neg h20] at hh
              replace h20 := Bool.eq_false_iff.mpr h20
              refine awp_false (by first | exact congrArg PV.bool h20 | rfl) ?_
              refine awp_skip ?_; refine nmx ?_
              obtain ⟨l_15, h21, hh⟩ := bind_ex hh
              obtain ⟨h21a, h21c⟩ := app_some h21
              have h21d := app_map (f := PV.str) h21c
              have h21e := app_len h21c
              try simp only [List.length_cons, List.length_nil, Nat.zero_add, Nat.reduceAdd] at h21a h21e
              try simp only [h21e] at h21a
              try simp only [List.map_cons, List.map_nil, List.nil_append, List.append_nil, List.cons_append, List.singleton_append, rune1, api_Attr.pv_eq, api_Node.pv_eq, codec_reader.pv_eq, diptychref2_Reader.pv_eq, pvL] at h21d
              refine awp_region fun K kk hK => ?_
              simp only [go_sem, h21a, h21d, h21e, hl0a, hl0b, hl0d, hl0w]
              (repeat refine sd ?_)
              refine hK _ _ fun nx => ?_; clear hK K; try clear kk
              refine nmx ?_
              refine awp_region fun K kk hK => ?_
              simp only [go_sem, hl0a, hl0b, hl0d, hl0w]
              refine hK _ _ fun nx => ?_; clear hK K; try clear kk
              refine nmx ?_
              have ih' := ih (pre ++ [y_13]) (v_8 + 1) _ (by rw [hsplit]; simp) (by simp [hidx]) hh nx
              refine cut_id ?_
              first | exact ih' _ _ | (simp only [api_Attr.pv_eq, api_Node.pv_eq, codec_reader.pv_eq, diptychref2_Reader.pv_eq, pvL, List.map_cons, List.map_nil, List.map_append, rune1, h21e] at ih' ⊢; exact ih' _ _) | (simp only [api_Attr.pv_eq, api_Node.pv_eq, codec_reader.pv_eq, diptychref2_Reader.pv_eq, pvL, List.map_cons, List.map_nil, List.map_append, rune1, h21e, h18, h2, h20] at ih' ⊢; exact ih' _ _)
        exact key n_1.Attrs [] _ _ rfl rfl f0 _ _ _
      · rintro s ⟨t, hless, names_19, rfl, v_17, v_18, nx, g1, g3, rfl⟩
        try dsimp only at hh
        refine nmy ?_
        first | (refine cut_less hless ?_; try refine cut_awp ?_) | refine frag_less hless ?_ | refine body_less hless ?_
        refine awp_seq ?_
        obtain ⟨name_20, h22, hh⟩ := bind_ex hh
        by_cases h23 : (!name_20) = true
        · rw [if_pos h23] at hh
          refine awp_first fun K kk hK => ?_
          simp only [go_sem, h23, h23]
          (repeat refine sd ?_)
          refine step_call2 (node_Name_ok _ _ h22) (by (try simp only [go_sem, h23, h23]) <;> exact wkl) (by rfl) (by rfl) ?_
          simp only [go_sem, h23, h23]
          (repeat refine sd ?_)
          refine hK _ _ fun nx => ?_; clear hK K; try clear kk
          refine awp_true rfl ?_
          refine awp_first fun K kk hK => ?_
          simp only [go_sem]
          refine hK _ _ fun nx => ?_; clear hK K; try clear kk
          refine awp_ret ?_; refine nmx ?_
          obtain hR := Option.some.inj hh
          subst hR
          exact ret_p2
        · rw [if_neg h23] at hh
          replace h23 := Bool.eq_false_iff.mpr h23
          by_cases h24 : (!(n_1.Text == ([] : Str))) = true
          · rw [if_pos h24] at hh
            refine awp_first fun K kk hK => ?_
            simp only [go_sem, h23, h23, h24, h24]
            (repeat refine sd ?_)
            refine step_call2 (node_Name_ok _ _ h22) (by (try simp only [go_sem, h23, h23, h24, h24]) <;> exact wkl) (by rfl) (by rfl) ?_
            simp only [go_sem, h23, h23, h24, h24]
            (repeat refine sd ?_)
            refine hK _ _ fun nx => ?_; clear hK K; try clear kk
            refine awp_true rfl ?_
            refine awp_first fun K kk hK => ?_
            simp only [go_sem]
            refine hK _ _ fun nx => ?_; clear hK K; try clear kk
            refine awp_ret ?_; refine nmx ?_
            obtain hR := Option.some.inj hh
            subst hR
            exact ret_p2
          · rw [if_neg h24] at hh
            replace h24 := Bool.eq_false_iff.mpr h24
            by_cases h25 : (decide ((n_1.Marks.length : Int) > (0 : Int))) = true
            · rw [if_pos h25] at hh
              refine awp_first fun K kk hK => ?_
              simp only [go_sem, h23, h23, h24, h24, h25, of_decide_eq_true h25, h25, of_decide_eq_true h25]
              (repeat refine sd ?_)
              refine step_call2 (node_Name_ok _ _ h22) (by (try simp only [go_sem, h23, h23, h24, h24, h25, of_decide_eq_true h25, h25, of_decide_eq_true h25]) <;> exact wkl) (by rfl) (by rfl) ?_
              simp only [go_sem, h23, h23, h24, h24, h25, of_decide_eq_true h25, h25, of_decide_eq_true h25]
              (repeat refine sd ?_)
              refine hK _ _ fun nx => ?_; clear hK K; try clear kk
              refine awp_true rfl ?_
              refine awp_first fun K kk hK => ?_
              simp only [go_sem]
              refine hK _ _ fun nx => ?_; clear hK K; try clear kk
              refine awp_ret ?_; refine nmx ?_
              obtain hR := Option.some.inj hh
              subst hR
              exact ret_p2
            · rw [if_neg h25] at hh
              replace h25 := Bool.eq_false_iff.mpr h25
              obtain ⟨rise_21, h26, hh⟩ := bind_ex hh
              refine awp_first fun K kk hK => ?_
              simp only [go_sem, h23, h23, h24, h24, h25, of_decide_eq_false h25, h25, of_decide_eq_false h25]
              (repeat refine sd ?_)
              refine step_call2 (node_Name_ok _ _ h22) (by (try simp only [go_sem, h23, h23, h24, h24, h25, of_decide_eq_false h25, h25, of_decide_eq_false h25]) <;> exact wkl) (by rfl) (by rfl) ?_
              simp only [go_sem, h23, h23, h24, h24, h25, of_decide_eq_false h25, h25, of_decide_eq_false h25]
              (repeat refine sd ?_)
              refine step_call2 (node_rise_ok _ _ h26) (by (try simp only [go_sem, h23, h23, h24, h24, h25, of_decide_eq_false h25, h25, of_decide_eq_false h25]) <;> exact wkl) (by rfl) (by rfl) ?_
              simp only [go_sem, h23, h23, h24, h24, h25, of_decide_eq_false h25, h25, of_decide_eq_false h25]
              (repeat refine sd ?_)
              refine hK _ _ fun nx => ?_; clear hK K; try clear kk
              by_cases h27 : (!rise_21) = true
              · rw [if_pos h27] at hh
                refine awp_true (by first | exact congrArg PV.bool h27 | rfl) ?_
                refine awp_first fun K kk hK => ?_
                simp only [go_sem]
                refine hK _ _ fun nx => ?_; clear hK K; try clear kk
                refine awp_ret ?_; refine nmx ?_
                obtain hR := Option.some.inj hh
                subst hR
                exact ret_p2
              · rw [if_neg h27] at hh
                replace h27 := Bool.eq_false_iff.mpr h27
                refine awp_false (by first | exact congrArg PV.bool h27 | rfl) ?_
                refine awp_skip ?_; refine nmx ?_
                refine awp_seq ?_
                refine awp_first fun K kk hK => ?_
                simp only [go_sem]
                refine hK _ _ fun nx => ?_; clear hK K; try clear kk
                obtain ⟨e1, f1, hh⟩ := bind_ex hh
                obtain ⟨hlen1, f1⟩ := chk_some f1
                refine awp_fragE (CutTo (fun s => .inr () = e1 ∧ ∃ (v_36 : Int) (v_37 : Bool) (nx : Nat) (g1 : Nat), s = ⟨[(1, .box 1 g1 0), (71, .list 5 (n_1.Kids.map api_Node.pv)), (72, .int .i64 (n_1.Kids.length : Int)), (73, .int .i64 v_36), (74, .bool v_37)], [(1, g1, .var 26 [.str n_1.Kind, .str n_1.Text, .list 1 (n_1.Marks.map PV.str), .list 2 (n_1.Attrs.map api_Attr.pv), .list 5 (n_1.Kids.map api_Node.pv)])], nx⟩))
                  (fun i s => False)
                  (fun s => ∃ res_35, .inl res_35 = e1 ∧ bodyR Tryd.prog [.tmp 2] (.bool res_35) [] .ret s) ?_ ?_ ?_ ?_
                · refine awp_block ?_
                  refine awp_loopJ fun I hI => ?_
                  have key : ∀ (suf pre : List api_Node) (v_26 : Int), n_1.Kids = pre ++ suf → v_26 = (pre.length : Int) → node_formed_l1 n_1 (node_formed_k kr) suf v_26 = some e1 → ∀ (nx : Nat) (g1 : Nat), I ⟨[(1, .box 1 g1 0), (71, .list 5 (n_1.Kids.map api_Node.pv)), (72, .int .i64 (n_1.Kids.length : Int)), (73, .int .i64 v_26)], [(1, g1, .var 26 [.str n_1.Kind, .str n_1.Text, .list 1 (n_1.Marks.map PV.str), .list 2 (n_1.Attrs.map api_Attr.pv), .list 5 (n_1.Kids.map api_Node.pv)])], nx⟩ := by
                    intro suf
                    induction suf with
                    | nil =>
                      intro pre v_26 hsplit hidx hh nx g1
                      rw [node_formed_l1] at hh
                      refine hI _ ?_
                      have h44 := walk_nil hsplit hidx
                      refine awp_first fun K kk hK => ?_
                      simp only [go_sem]
                      refine hK _ _ fun nx => ?_; clear hK K; try clear kk
                      refine awp_seq ?_
                      refine awp_false (by first | exact congrArg PV.bool h44 | rfl) ?_
                      refine awp_exit ?_; refine nmx ?_
                      refine fragN ?_
                      refine cut_id ?_
                      refine ⟨(Option.some.inj hh), ?_⟩
                      first | exact ⟨_, _, _, _, rfl⟩ | (simp only [api_Attr.pv_eq, api_Node.pv_eq, codec_reader.pv_eq, diptychref2_Reader.pv_eq, pvL, List.map_cons, List.map_nil, List.map_append, rune1]; exact ⟨_, _, _, _, rfl⟩) | (simp only [api_Attr.pv_eq, api_Node.pv_eq, codec_reader.pv_eq, diptychref2_Reader.pv_eq, pvL, List.map_cons, List.map_nil, List.map_append, rune1, h2, h23, h24, h25, h27, h44]; exact ⟨_, _, _, _, rfl⟩)
                    | cons y_31 suf ih =>
                      intro pre v_26 hsplit hidx hh nx g1
                      rw [node_formed_l1] at hh
                      refine hI _ ?_
                      obtain ⟨hl1a, hl1b, hl1d, hl1w, h44⟩ := walk_cons (f := api_Node.pv) hsplit hidx hlen1
                      refine awp_first fun K kk hK => ?_
                      simp only [go_sem]
                      refine hK _ _ fun nx => ?_; clear hK K; try clear kk
                      refine awp_seq ?_
                      refine awp_true (by first | exact congrArg PV.bool h44 | rfl) ?_
                      refine awp_skip ?_; refine nmx ?_
                      refine awp_seq ?_
                      refine awp_block ?_
                      refine awp_first fun K kk hK => ?_
                      simp only [go_sem, hl1a, hl1b, hl1d, hl1w]
                      refine hK _ _ fun nx => ?_; clear hK K; try clear kk
                      obtain ⟨formed_32, h45, hh⟩ := bind_ex hh
                      by_cases h46 : (!formed_32) = true
                      · rw [if_pos h46] at hh
                        refine awp_first fun K kk hK => ?_
                        simp only [go_sem, h46, h46, hl1a, hl1b, hl1d, hl1w]
                        (repeat refine sd ?_)
                        refine step_call2 (ih_node_formed _ _ h45) (by (try simp only [go_sem, h46, h46, hl1a, hl1b, hl1d, hl1w]) <;> exact wkl) (by rfl) (by rfl) ?_
                        simp only [go_sem, h46, h46, hl1a, hl1b, hl1d, hl1w]
                        (repeat refine sd ?_)
                        refine hK _ _ fun nx => ?_; clear hK K; try clear kk
                        refine awp_true rfl ?_
                        refine awp_first fun K kk hK => ?_
                        simp only [go_sem, hl1a, hl1b, hl1d, hl1w]
                        refine hK _ _ fun nx => ?_; clear hK K; try clear kk
                        refine awp_ret ?_; refine nmx ?_
                        refine fragR ⟨_, (Option.some.inj hh), ?_⟩
                        exact ret_p2
                      · rw [if_neg h46] at hh
                        replace h46 := Bool.eq_false_iff.mpr h46
                        by_cases h47 : (decide (v_26 > (0 : Int))) = true
                        · rw [if_pos h47] at hh
                          obtain ⟨x_33, h48, hh⟩ := bind_ex hh
                          obtain ⟨h48a, h48b, h48c⟩ := rd_some h48
                          have h48d := rd_get (f := api_Node.pv) h48c
                          have h48f := rd_more (f := api_Node.pv) h48c
                          try simp only [Int.toNat_natCast, Int.reduceToNat] at h48d h48f
                          obtain ⟨alike_34, h49, hh⟩ := bind_ex hh
                          refine awp_first fun K kk hK => ?_
                          simp only [go_sem, h46, h47, of_decide_eq_true h47, h48a, h48b, h48d, h48f.1, h48f.2, h47, of_decide_eq_true h47, h46, hl1a, hl1b, hl1d, hl1w]
                          (repeat refine sd ?_)
                          refine step_call2 (ih_node_formed _ _ h45) (by (try simp only [go_sem, h46, h47, of_decide_eq_true h47, h48a, h48b, h48d, h48f.1, h48f.2, h47, of_decide_eq_true h47, h46, hl1a, hl1b, hl1d, hl1w]) <;> exact wkl) (by rfl) (by rfl) ?_
                          simp only [go_sem, h46, h47, of_decide_eq_true h47, h48a, h48b, h48d, h48f.1, h48f.2, h47, of_decide_eq_true h47, h46, hl1a, hl1b, hl1d, hl1w]
                          (repeat refine sd ?_)
                          refine step_call2 (node_alike_ok _ _ _ h49) (by (try simp only [go_sem, h46, h47, of_decide_eq_true h47, h48a, h48b, h48d, h48f.1, h48f.2, h47, of_decide_eq_true h47, h46, hl1a, hl1b, hl1d, hl1w]) <;> exact wkl) (by rfl) (by rfl) ?_
                          simp only [go_sem, h46, h47, of_decide_eq_true h47, h48a, h48b, h48d, h48f.1, h48f.2, h47, of_decide_eq_true h47, h46, hl1a, hl1b, hl1d, hl1w]
                          (repeat refine sd ?_)
                          refine hK _ _ fun nx => ?_; clear hK K; try clear kk
                          by_cases h50 : (alike_34) = true
                          · rw [if_pos h50] at hh
                            refine awp_true (by first | exact congrArg PV.bool h50 | rfl) ?_
                            refine awp_first fun K kk hK => ?_
                            simp only [go_sem, hl1a, hl1b, hl1d, hl1w]
                            refine hK _ _ fun nx => ?_; clear hK K; try clear kk
                            refine awp_ret ?_; refine nmx ?_
                            refine fragR ⟨_, (Option.some.inj hh), ?_⟩
                            exact ret_p2
                          · rw [if_neg h50] at hh
                            replace h50 := Bool.eq_false_iff.mpr h50
                            refine awp_false (by first | exact congrArg PV.bool h50 | rfl) ?_
                            refine awp_skip ?_; refine nmx ?_
                            refine awp_region fun K kk hK => ?_
                            simp only [go_sem, hl1a, hl1b, hl1d, hl1w]
                            refine hK _ _ fun nx => ?_; clear hK K; try clear kk
                            refine nmx ?_
                            have ih' := ih (pre ++ [y_31]) (v_26 + 1) (by rw [hsplit]; simp) (by simp [hidx]) hh nx
                            refine cut_id ?_
                            first | exact ih' _ | (simp only [api_Attr.pv_eq, api_Node.pv_eq, codec_reader.pv_eq, diptychref2_Reader.pv_eq, pvL, List.map_cons, List.map_nil, List.map_append, rune1] at ih' ⊢; exact ih' _) | (simp only [api_Attr.pv_eq, api_Node.pv_eq, codec_reader.pv_eq, diptychref2_Reader.pv_eq, pvL, List.map_cons, List.map_nil, List.map_append, rune1, h2, h23, h24, h25, h27, h44, h46, h47, h50] at ih' ⊢; exact ih' _)
                        · rw [if_neg h47] at hh
                          replace h47 := Bool.eq_false_iff.mpr h47
                          refine awp_first fun K kk hK => ?_
                          simp only [go_sem, h46, h47, of_decide_eq_false h47, h47, of_decide_eq_false h47, h46, hl1a, hl1b, hl1d, hl1w]
                          (repeat refine sd ?_)
                          refine step_call2 (ih_node_formed _ _ h45) (by (try simp only [go_sem, h46, h47, of_decide_eq_false h47, h47, of_decide_eq_false h47, h46, hl1a, hl1b, hl1d, hl1w]) <;> exact wkl) (by rfl) (by rfl) ?_
                          simp only [go_sem, h46, h47, of_decide_eq_false h47, h47, of_decide_eq_false h47, h46, hl1a, hl1b, hl1d, hl1w]
                          (repeat refine sd ?_)
                          refine hK _ _ fun nx => ?_; clear hK K; try clear kk
                          refine awp_false rfl ?_
                          refine awp_skip ?_; refine nmx ?_
                          refine awp_region fun K kk hK => ?_
                          simp only [go_sem, hl1a, hl1b, hl1d, hl1w]
                          refine hK _ _ fun nx => ?_; clear hK K; try clear kk
                          refine nmx ?_
                          have ih' := ih (pre ++ [y_31]) (v_26 + 1) (by rw [hsplit]; simp) (by simp [hidx]) hh nx
                          refine cut_id ?_
                          first | exact ih' _ | (simp only [api_Attr.pv_eq, api_Node.pv_eq, codec_reader.pv_eq, diptychref2_Reader.pv_eq, pvL, List.map_cons, List.map_nil, List.map_append, rune1] at ih' ⊢; exact ih' _) | (simp only [api_Attr.pv_eq, api_Node.pv_eq, codec_reader.pv_eq, diptychref2_Reader.pv_eq, pvL, List.map_cons, List.map_nil, List.map_append, rune1, h2, h23, h24, h25, h27, h44, h46, h47] at ih' ⊢; exact ih' _)
                  exact key n_1.Kids [] _ rfl rfl f1 _ _
                · rintro s ⟨t, hless, rfl, v_36, v_37, nx, g1, rfl⟩
                  try dsimp only at hh
                  refine nmy ?_
                  first | (refine cut_less hless ?_; try refine cut_awp ?_) | refine frag_less hless ?_ | refine body_less hless ?_
                  refine awp_first fun K kk hK => ?_
                  simp only [go_sem]
                  refine hK _ _ fun nx => ?_; clear hK K; try clear kk
                  refine awp_ret ?_; refine nmx ?_
                  obtain hR := Option.some.inj hh
                  subst hR
                  exact ret_p2
                · intro i s h; exact h.elim
                · rintro s ⟨res_35, rfl, hb⟩
                  try dsimp only at hh
                  obtain hR := Option.some.inj hh
                  subst hR
                  refine nmx ?_
                  exact hb
      · intro i s h; exact h.elim
      · rintro s ⟨res_16, rfl, hb⟩
        try dsimp only at hh
        obtain hR := Option.some.inj hh
        subst hR
        refine nmx ?_
        exact hb
theorem node_formed_ok (n_1 : api_Node) (R : Bool) (hh : node_formed n_1 = some R) : PC Tryd.prog 50 [.agg [.str n_1.Kind, .str n_1.Text, .list 1 (n_1.Marks.map PV.str), .list 2 (n_1.Attrs.map api_Attr.pv), .list 5 (n_1.Kids.map api_Node.pv)]] (.bool R) := by
  rw [node_formed] at hh
  obtain ⟨kr, hh⟩ := lim_some hh
  exact (node_formed_grp kr) _ _ hh
theorem unicode_utf8_RuneCountInString_ok (s_1 : Str) (R : Int) (hh : unicode_utf8_RuneCountInString s_1 = some R) : PC Tryd.prog 73 [.str s_1] (.int .i64 R) := by
  rw [unicode_utf8_RuneCountInString] at hh
  refine start_unicode_utf8_RuneCountInString rfl ?_
  refine awp_first fun K kk hK => ?_
  simp only [go_sem]
  refine hK _ _ fun nx => ?_; clear hK K; try clear kk
  refine awp_seq ?_
  refine awp_first fun K kk hK => ?_
  simp only [go_sem]
  refine hK _ _ fun nx => ?_; clear hK K; try clear kk
  obtain ⟨e0, f0, hh⟩ := bind_ex hh
  refine awp_fragE (CutTo (fun s => ∃ n_4, n_4 = e0 ∧ ∃ (v_5 : Nat) (nx : Nat) (g4 : Nat), s = ⟨[(2, .int .i64 n_4), (4, .box 4 g4 0), (6, .bool false)], [(4, g4, .iter s_1 v_5)], nx⟩))
    (fun i s => False)
    (fun s => False) ?_ ?_ ?_ ?_
  · refine awp_block ?_
    refine awp_loopJ fun I hI => ?_
    obtain ⟨k, f0⟩ := lim_some f0
    have key : ∀ (k : Nat) (n_2 : Int) (v_3 : Nat), unicode_utf8_RuneCountInString_l0 s_1 k n_2 v_3 = some e0 → ∀ (nx : Nat) (g4 : Nat), I ⟨[(2, .int .i64 n_2), (4, .box 4 g4 0)], [(4, g4, .iter s_1 v_3)], nx⟩ := by
      intro k
      induction k with
      | zero => intro n_2 v_3 hh; rw [unicode_utf8_RuneCountInString_l0] at hh; cases hh
      | succ k ih =>
        intro n_2 v_3 hh nx g4
        rw [unicode_utf8_RuneCountInString_l0] at hh
        refine hI _ ?_
        by_cases h2 : (decide (v_3 < s_1.length)) = true
        · rw [if_pos h2] at hh
          refine awp_first fun K kk hK => ?_
          simp only [go_sem, h2, of_decide_eq_true h2]
          (repeat refine sd ?_)
          refine hK _ _ fun nx => ?_; clear hK K; try clear kk
          refine awp_seq ?_
          refine awp_true rfl ?_
          refine awp_skip ?_; refine nmx ?_
          refine awp_block ?_
          refine awp_region fun K kk hK => ?_
          simp only [go_sem]
          refine hK _ _ fun nx => ?_; clear hK K; try clear kk
          refine nmx ?_
          have ih' := ih _ _ hh nx
          refine cut_id ?_
          first | exact ih' _ | (simp only [api_Attr.pv_eq, api_Node.pv_eq, codec_reader.pv_eq, diptychref2_Reader.pv_eq, pvL, List.map_cons, List.map_nil, List.map_append, rune1] at ih' ⊢; exact ih' _) | (simp only [api_Attr.pv_eq, api_Node.pv_eq, codec_reader.pv_eq, diptychref2_Reader.pv_eq, pvL, List.map_cons, List.map_nil, List.map_append, rune1, h2] at ih' ⊢; exact ih' _)
        · rw [if_neg h2] at hh
          replace h2 := Bool.eq_false_iff.mpr h2
          refine awp_first fun K kk hK => ?_
          simp only [go_sem, h2, of_decide_eq_false h2]
          (repeat refine sd ?_)
          refine hK _ _ fun nx => ?_; clear hK K; try clear kk
          refine awp_seq ?_
          refine awp_false rfl ?_
          refine awp_exit ?_; refine nmx ?_
          refine fragN ?_
          refine cut_id ?_
          refine ⟨_, (Option.some.inj hh), ?_⟩
          first | exact ⟨_, _, _, rfl⟩ | (simp only [api_Attr.pv_eq, api_Node.pv_eq, codec_reader.pv_eq, diptychref2_Reader.pv_eq, pvL, List.map_cons, List.map_nil, List.map_append, rune1]; exact ⟨_, _, _, rfl⟩) | (simp only [api_Attr.pv_eq, api_Node.pv_eq, codec_reader.pv_eq, diptychref2_Reader.pv_eq, pvL, List.map_cons, List.map_nil, List.map_append, rune1, h2]; exact ⟨_, _, _, rfl⟩)
    exact key _ _ _ f0 _ _
  · rintro s ⟨t, hless, n_4, rfl, v_5, nx, g4, rfl⟩
    try dsimp only at hh
    refine nmy ?_
    first | (refine cut_less hless ?_; try refine cut_awp ?_) | refine frag_less hless ?_ | refine body_less hless ?_
    refine awp_first fun K kk hK => ?_
    simp only [go_sem]
    refine hK _ _ fun nx => ?_; clear hK K; try clear kk
    refine awp_ret ?_; refine nmx ?_
    obtain hR := Option.some.inj hh
    subst hR
    exact ret_p2
  · intro i s h; exact h.elim
  · intro s h; exact h.elim
theorem node_Total_grp : ∀ kr : Nat, (∀ (l_1 : (List api_Node)) (R : Int), node_Total_k kr l_1 = some R → PC Tryd.prog 74 [.list 5 (l_1.map api_Node.pv)] (.int .i64 R)) ∧
    (∀ (n_1 : api_Node) (R : Int), node_Size_k kr n_1 = some R → PC Tryd.prog 51 [.agg [.str n_1.Kind, .str n_1.Text, .list 1 (n_1.Marks.map PV.str), .list 2 (n_1.Attrs.map api_Attr.pv), .list 5 (n_1.Kids.map api_Node.pv)]] (.int .i64 R)) := by
  intro kr
  induction kr with
  | zero => exact ⟨(by intro l_1 R hh; rw [node_Total_k] at hh; cases hh), (by intro n_1 R hh; rw [node_Size_k] at hh; cases hh)⟩
  | succ kr ih =>
    obtain ⟨ih_node_Total, ih_node_Size⟩ := ih
    refine ⟨?_, ?_⟩
    · intro l_1 R hh
      rw [node_Total_k] at hh
      refine start_node_Total rfl ?_
      refine awp_first fun K kk hK => ?_
      simp only [go_sem]
      refine hK _ _ fun nx => ?_; clear hK K; try clear kk
      refine awp_first fun K kk hK => ?_
      simp only [go_sem]
      refine hK _ _ fun nx => ?_; clear hK K; try clear kk
      refine awp_seq ?_
      refine awp_first fun K kk hK => ?_
      simp only [go_sem]
      refine hK _ _ fun nx => ?_; clear hK K; try clear kk
      obtain ⟨e0, f0, hh⟩ := bind_ex hh
      obtain ⟨hlen0, f0⟩ := chk_some f0
      refine awp_fragE (CutTo (fun s => ∃ many_10, many_10 = e0 ∧ ∃ (v_11 : Int) (v_12 : Bool) (nx : Nat), s = ⟨[(3, .int .i64 many_10), (6, .list 5 (l_1.map api_Node.pv)), (7, .int .i64 (l_1.length : Int)), (8, .int .i64 v_11), (9, .bool v_12)], [], nx⟩))
        (fun i s => False)
        (fun s => False) ?_ ?_ ?_ ?_
      · refine awp_block ?_
        refine awp_loopJ fun I hI => ?_
        have key : ∀ (suf pre : List api_Node) (v_5 : Int) (many_4 : Int), l_1 = pre ++ suf → v_5 = (pre.length : Int) → node_Total_l0 (node_Size_k kr) suf v_5 many_4 = some e0 → ∀ (nx : Nat), I ⟨[(3, .int .i64 many_4), (6, .list 5 (l_1.map api_Node.pv)), (7, .int .i64 (l_1.length : Int)), (8, .int .i64 v_5)], [], nx⟩ := by
          intro suf
          induction suf with
          | nil =>
            intro pre v_5 many_4 hsplit hidx hh nx
            rw [node_Total_l0] at hh
            refine hI _ ?_
            have h7 := walk_nil hsplit hidx
            refine awp_first fun K kk hK => ?_
            simp only [go_sem]
            refine hK _ _ fun nx => ?_; clear hK K; try clear kk
            refine awp_seq ?_
            refine awp_false (by first | exact congrArg PV.bool h7 | rfl) ?_
            refine awp_exit ?_; refine nmx ?_
            refine fragN ?_
            refine cut_id ?_
            refine ⟨_, (Option.some.inj hh), ?_⟩
            first | exact ⟨_, _, _, rfl⟩ | (simp only [api_Attr.pv_eq, api_Node.pv_eq, codec_reader.pv_eq, diptychref2_Reader.pv_eq, pvL, List.map_cons, List.map_nil, List.map_append, rune1]; exact ⟨_, _, _, rfl⟩) | (simp only [api_Attr.pv_eq, api_Node.pv_eq, codec_reader.pv_eq, diptychref2_Reader.pv_eq, pvL, List.map_cons, List.map_nil, List.map_append, rune1, h7]; exact ⟨_, _, _, rfl⟩)
          | cons y_8 suf ih =>
            intro pre v_5 many_4 hsplit hidx hh nx
            rw [node_Total_l0] at hh
            refine hI _ ?_
            obtain ⟨hl0a, hl0b, hl0d, hl0w, h7⟩ := walk_cons (f := api_Node.pv) hsplit hidx hlen0
            refine awp_first fun K kk hK => ?_
            simp only [go_sem]
            refine hK _ _ fun nx => ?_; clear hK K; try clear kk
            refine awp_seq ?_
            refine awp_true (by first | exact congrArg PV.bool h7 | rfl) ?_
            refine awp_skip ?_; refine nmx ?_
            refine awp_seq ?_
            refine awp_block ?_
            refine awp_first fun K kk hK => ?_
            simp only [go_sem, hl0a, hl0b, hl0d, hl0w]
            refine hK _ _ fun nx => ?_; clear hK K; try clear kk
            obtain ⟨size_9, h8, hh⟩ := bind_ex hh
            refine awp_region fun K kk hK => ?_
            simp only [go_sem, hl0a, hl0b, hl0d, hl0w]
            refine step_call2 (ih_node_Size _ _ h8) (by (try simp only [go_sem, hl0a, hl0b, hl0d, hl0w]) <;> exact wkl) (by rfl) (by rfl) ?_
            simp only [go_sem, hl0a, hl0b, hl0d, hl0w]
            refine hK _ _ fun nx => ?_; clear hK K; try clear kk
            refine nmx ?_
            refine awp_region fun K kk hK => ?_
            simp only [go_sem, hl0a, hl0b, hl0d, hl0w]
            refine hK _ _ fun nx => ?_; clear hK K; try clear kk
            refine nmx ?_
            have ih' := ih (pre ++ [y_8]) (v_5 + 1) _ (by rw [hsplit]; simp) (by simp [hidx]) hh nx
            refine cut_id ?_
            first | exact ih' | (simp only [api_Attr.pv_eq, api_Node.pv_eq, codec_reader.pv_eq, diptychref2_Reader.pv_eq, pvL, List.map_cons, List.map_nil, List.map_append, rune1] at ih' ⊢; exact ih') | (simp only [api_Attr.pv_eq, api_Node.pv_eq, codec_reader.pv_eq, diptychref2_Reader.pv_eq, pvL, List.map_cons, List.map_nil, List.map_append, rune1, h7] at ih' ⊢; exact ih')
        exact key l_1 [] _ _ rfl rfl f0 _
      · rintro s ⟨t, hless, many_10, rfl, v_11, v_12, nx, rfl⟩
        try dsimp only at hh
        refine nmy ?_
        first | (refine cut_less hless ?_; try refine cut_awp ?_) | refine frag_less hless ?_ | refine body_less hless ?_
        refine awp_first fun K kk hK => ?_
        simp only [go_sem]
        refine hK _ _ fun nx => ?_; clear hK K; try clear kk
        refine awp_ret ?_; refine nmx ?_
        obtain hR := Option.some.inj hh
        subst hR
        exact ret_p2
      · intro i s h; exact h.elim
      · intro s h; exact h.elim
    · intro n_1 R hh
      rw [node_Size_k] at hh
      refine start_node_Size rfl ?_
      refine awp_first fun K kk hK => ?_
      simp only [go_sem]
      refine hK _ _ fun nx => ?_; clear hK K; try clear kk
      refine awp_seq ?_
      obtain ⟨istext_2, h1, hh⟩ := bind_ex hh
      refine awp_first fun K kk hK => ?_
      simp only [go_sem]
      refine step_call2 (node_isText_ok _ _ h1) (by (try simp only [go_sem]) <;> exact wkl) (by rfl) (by rfl) ?_
      simp only [go_sem]
      refine hK _ _ fun nx => ?_; clear hK K; try clear kk
      by_cases h2 : (istext_2) = true
      · rw [if_pos h2] at hh
        refine awp_true (by first | exact congrArg PV.bool h2 | rfl) ?_
        obtain ⟨runeco_3, h3, hh⟩ := bind_ex hh
        refine awp_first fun K kk hK => ?_
        simp only [go_sem]
        refine step_call2 (unicode_utf8_RuneCountInString_ok _ _ h3) (by (try simp only [go_sem]) <;> exact wkl) (by rfl) (by rfl) ?_
        simp only [go_sem]
        refine hK _ _ fun nx => ?_; clear hK K; try clear kk
        refine awp_ret ?_; refine nmx ?_
        obtain hR := Option.some.inj hh
        subst hR
        exact ret_p2
      · rw [if_neg h2] at hh
        replace h2 := Bool.eq_false_iff.mpr h2
        refine awp_false (by first | exact congrArg PV.bool h2 | rfl) ?_
        refine awp_skip ?_; refine nmx ?_
        obtain ⟨total_4, h4, hh⟩ := bind_ex hh
        refine awp_first fun K kk hK => ?_
        simp only [go_sem]
        refine step_call2 (ih_node_Total _ _ h4) (by (try simp only [go_sem]) <;> exact wkl) (by rfl) (by rfl) ?_
        simp only [go_sem]
        refine hK _ _ fun nx => ?_; clear hK K; try clear kk
        refine awp_ret ?_; refine nmx ?_
        obtain hR := Option.some.inj hh
        subst hR
        exact ret_p2
theorem node_Total_ok (l_1 : (List api_Node)) (R : Int) (hh : node_Total l_1 = some R) : PC Tryd.prog 74 [.list 5 (l_1.map api_Node.pv)] (.int .i64 R) := by
  rw [node_Total] at hh
  obtain ⟨kr, hh⟩ := lim_some hh
  exact (node_Total_grp kr).1 _ _ hh
theorem node_Size_ok (n_1 : api_Node) (R : Int) (hh : node_Size n_1 = some R) : PC Tryd.prog 51 [.agg [.str n_1.Kind, .str n_1.Text, .list 1 (n_1.Marks.map PV.str), .list 2 (n_1.Attrs.map api_Attr.pv), .list 5 (n_1.Kids.map api_Node.pv)]] (.int .i64 R) := by
  rw [node_Size] at hh
  obtain ⟨kr, hh⟩ := lim_some hh
  exact (node_Total_grp kr).2 _ _ hh
theorem node_Check_ok (n_1 : api_Node) (R : Int) (hh : node_Check n_1 = some R) : PC Tryd.prog 32 [.agg [.str n_1.Kind, .str n_1.Text, .list 1 (n_1.Marks.map PV.str), .list 2 (n_1.Attrs.map api_Attr.pv), .list 5 (n_1.Kids.map api_Node.pv)]] (.int .i64 R) := by
  rw [node_Check] at hh
  refine start_node_Check rfl ?_
  refine awp_first fun K kk hK => ?_
  simp only [go_sem]
  refine hK _ _ fun nx => ?_; clear hK K; try clear kk
  refine awp_seq ?_
  refine awp_block ?_
  obtain ⟨formed_2, h1, hh⟩ := bind_ex hh
  refine awp_first fun K kk hK => ?_
  simp only [go_sem]
  refine step_call2 (node_formed_ok _ _ h1) (by (try simp only [go_sem]) <;> exact wkl) (by rfl) (by rfl) ?_
  simp only [go_sem]
  refine hK _ _ fun nx => ?_; clear hK K; try clear kk
  by_cases h2 : (!formed_2) = true
  · rw [if_pos h2] at hh
    refine awp_true (by first | exact congrArg PV.bool h2 | rfl) ?_
    refine awp_first fun K kk hK => ?_
    simp only [go_sem]
    refine hK _ _ fun nx => ?_; clear hK K; try clear kk
    refine awp_ret ?_; refine nmx ?_
    obtain hR := Option.some.inj hh
    subst hR
    exact ret_p2
  · rw [if_neg h2] at hh
    replace h2 := Bool.eq_false_iff.mpr h2
    refine awp_false (by first | exact congrArg PV.bool h2 | rfl) ?_
    obtain ⟨depth_3, h3, hh⟩ := bind_ex hh
    refine awp_first fun K kk hK => ?_
    simp only [go_sem]
    refine step_call2 (node_Depth_ok _ _ h3) (by (try simp only [go_sem]) <;> exact wkl) (by rfl) (by rfl) ?_
    simp only [go_sem]
    refine hK _ _ fun nx => ?_; clear hK K; try clear kk
    by_cases h4 : (decide (depth_3 > (40 : Int))) = true
    · rw [if_pos h4] at hh
      refine awp_true (by first | exact congrArg PV.bool h4 | rfl) ?_
      refine awp_first fun K kk hK => ?_
      simp only [go_sem]
      refine hK _ _ fun nx => ?_; clear hK K; try clear kk
      refine awp_ret ?_; refine nmx ?_
      obtain hR := Option.some.inj hh
      subst hR
      exact ret_p2
    · rw [if_neg h4] at hh
      replace h4 := Bool.eq_false_iff.mpr h4
      refine awp_false (by first | exact congrArg PV.bool h4 | rfl) ?_
      obtain ⟨size_4, h5, hh⟩ := bind_ex hh
      refine awp_first fun K kk hK => ?_
      simp only [go_sem]
      refine step_call2 (node_Size_ok _ _ h5) (by (try simp only [go_sem]) <;> exact wkl) (by rfl) (by rfl) ?_
      simp only [go_sem]
      refine hK _ _ fun nx => ?_; clear hK K; try clear kk
      by_cases h6 : (decide (size_4 > (4000 : Int))) = true
      · rw [if_pos h6] at hh
        refine awp_true (by first | exact congrArg PV.bool h6 | rfl) ?_
        refine awp_first fun K kk hK => ?_
        simp only [go_sem]
        refine hK _ _ fun nx => ?_; clear hK K; try clear kk
        refine awp_ret ?_; refine nmx ?_
        obtain hR := Option.some.inj hh
        subst hR
        exact ret_p2
      · rw [if_neg h6] at hh
        replace h6 := Bool.eq_false_iff.mpr h6
        refine awp_false (by first | exact congrArg PV.bool h6 | rfl) ?_
        refine awp_skip ?_; refine nmx ?_
        refine awp_first fun K kk hK => ?_
        simp only [go_sem]
        refine hK _ _ fun nx => ?_; clear hK K; try clear kk
        refine awp_ret ?_; refine nmx ?_
        obtain hR := Option.some.inj hh
        subst hR
        exact ret_p2
theorem strings_ReplaceAll_ok (s : Str) (old : Str) (new : Str) (R : Str) (hh : strings_ReplaceAll s old new = some R) : PC Tryd.prog 38 [.str s, .str old, .str new] (.str R) := by
  rw [strings_ReplaceAll] at hh
  exact lib_replaceAll ⟨_, Tryd.func38, by kernel_rfl, by kernel_rfl⟩ (fun _ h => h.2) Tryd.strings_ReplaceAll s old new R hh
theorem codec_Quote_ok (s_1 : Str) (R : Str) (hh : codec_Quote s_1 = some R) : PC Tryd.prog 16 [.str s_1] (.str R) := by
  rw [codec_Quote] at hh
  refine start_codec_Quote rfl ?_
  refine awp_first fun K kk hK => ?_
  simp only [go_sem]
  refine hK _ _ fun nx => ?_; clear hK K; try clear kk
  obtain ⟨replac_2, h1, hh⟩ := bind_ex hh
  refine awp_first fun K kk hK => ?_
  simp only [go_sem]
  refine step_call2 (strings_ReplaceAll_ok _ _ _ _ h1) (by (try simp only [go_sem]) <;> exact wkl) (by rfl) (by rfl) ?_
  simp only [go_sem]
  refine hK _ _ fun nx => ?_; clear hK K; try clear kk
  obtain ⟨replac_3, h2, hh⟩ := bind_ex hh
  obtain ⟨h3, hh⟩ := chk_some hh
  obtain ⟨h4, hh⟩ := chk_some hh
  refine awp_first fun K kk hK => ?_
  simp only [go_sem, h3, h4]
  (repeat refine sd ?_)
  refine step_call2 (strings_ReplaceAll_ok _ _ _ _ h2) (by (try simp only [go_sem, h3, h4]) <;> exact wkl) (by rfl) (by rfl) ?_
  simp only [go_sem, h3, h4]
  (repeat refine sd ?_)
  refine hK _ _ fun nx => ?_; clear hK K; try clear kk
  refine awp_ret ?_; refine nmx ?_
  obtain hR := Option.some.inj hh
  subst hR
  exact ret_p2
theorem strings_Join_ok (l : (List Str)) (sep : Str) (R : Str) (hh : strings_Join l sep = some R) : PC Tryd.prog 39 [.list 1 (l.map PV.str), .str sep] (.str R) := by
  rw [strings_Join] at hh
  exact lib_join ⟨_, Tryd.func39, by kernel_rfl, by kernel_rfl⟩ Tryd.strings_Join_none Tryd.strings_Join l sep R hh
theorem codec_Head_ok (n_1 : api_Node) (R : Str) (hh : codec_Head n_1 = some R) : PC Tryd.prog 18 [.agg [.str n_1.Kind, .str n_1.Text, .list 1 (n_1.Marks.map PV.str), .list 2 (n_1.Attrs.map api_Attr.pv), .list 5 (n_1.Kids.map api_Node.pv)]] (.str R) := by
  rw [codec_Head] at hh
  refine start_codec_Head rfl ?_
  refine awp_first fun K kk hK => ?_
  simp only [go_sem]
  refine hK _ _ fun nx => ?_; clear hK K; try clear kk
  refine awp_seq ?_
  refine awp_first fun K kk hK => ?_
  simp only [go_sem]
  refine hK _ _ fun nx => ?_; clear hK K; try clear kk
  by_cases h1 : (n_1.Kind == ([116, 101, 120, 116] : Str)) = true
  · rw [if_pos h1] at hh
    refine awp_true (by first | exact congrArg PV.bool h1 | rfl) ?_
    refine awp_seq ?_
    refine awp_first fun K kk hK => ?_
    simp only [go_sem]
    refine hK _ _ fun nx => ?_; clear hK K; try clear kk
    by_cases h2 : ((n_1.Marks.length : Int) == (0 : Int)) = true
    · rw [if_pos h2] at hh
      refine awp_true (by first | exact congrArg PV.bool h2 | rfl) ?_
      refine awp_first fun K kk hK => ?_
      simp only [go_sem]
      refine hK _ _ fun nx => ?_; clear hK K; try clear kk
      refine awp_ret ?_; refine nmx ?_
      obtain hR := Option.some.inj hh
      subst hR
      exact ret_p2
    · rw [if_neg h2] at hh
      replace h2 := Bool.eq_false_iff.mpr h2
      refine awp_false (by first | exact congrArg PV.bool h2 | rfl) ?_
      refine awp_skip ?_; refine nmx ?_
      obtain ⟨join_2, h3, hh⟩ := bind_ex hh
      obtain ⟨h4, hh⟩ := chk_some hh
      obtain ⟨h5, hh⟩ := chk_some hh
      refine awp_first fun K kk hK => ?_
      simp only [go_sem, h4, h5]
      (repeat refine sd ?_)
      refine step_call2 (strings_Join_ok _ _ _ h3) (by (try simp only [go_sem, h4, h5]) <;> exact wkl) (by rfl) (by rfl) ?_
      simp only [go_sem, h4, h5]
      (repeat refine sd ?_)
      refine hK _ _ fun nx => ?_; clear hK K; try clear kk
      refine awp_ret ?_; refine nmx ?_
      obtain hR := Option.some.inj hh
      subst hR
      exact ret_p2
  · rw [if_neg h1] at hh
    replace h1 := Bool.eq_false_iff.mpr h1
    refine awp_false (by first | exact congrArg PV.bool h1 | rfl) ?_
    refine awp_skip ?_; refine nmx ?_
    refine awp_seq ?_
    refine awp_first fun K kk hK => ?_
    simp only [go_sem]
    refine hK _ _ fun nx => ?_; clear hK K; try clear kk
    by_cases h6 : ((n_1.Attrs.length : Int) == (0 : Int)) = true
    · rw [if_pos h6] at hh
      refine awp_true (by first | exact congrArg PV.bool h6 | rfl) ?_
      refine awp_first fun K kk hK => ?_
      simp only [go_sem]
      refine hK _ _ fun nx => ?_; clear hK K; try clear kk
      refine awp_ret ?_; refine nmx ?_
      obtain hR := Option.some.inj hh
      subst hR
      exact ret_p2
    · rw [if_neg h6] at hh
      replace h6 := Bool.eq_false_iff.mpr h6
      refine awp_false (by first | exact congrArg PV.bool h6 | rfl) ?_
      refine awp_skip ?_; refine nmx ?_
      refine awp_first fun K kk hK => ?_
      simp only [go_sem]
      refine hK _ _ fun nx => ?_; clear hK K; try clear kk
      refine awp_seq ?_
      refine awp_first fun K kk hK => ?_
      simp only [go_sem]
      refine hK _ _ fun nx => ?_; clear hK K; try clear kk
      obtain ⟨e0, f0, hh⟩ := bind_ex hh
      obtain ⟨hlen0, f0⟩ := chk_some f0
      refine awp_fragE (CutTo (fun s => ∃ l_16, l_16 = e0 ∧ ∃ (v_14 : Int) (v_15 : Bool) (nx : Nat) (g1 : Nat) (g3 : Nat), s = ⟨[(1, .box 1 g1 0), (3, .row 3 g3 l_16.length), (25, .list 2 (n_1.Attrs.map api_Attr.pv)), (26, .int .i64 (n_1.Attrs.length : Int)), (27, .int .i64 v_14), (28, .bool v_15)], [(1, g1, .var 26 [.str n_1.Kind, .str n_1.Text, .list 1 (n_1.Marks.map PV.str), .list 2 (n_1.Attrs.map api_Attr.pv), .list 5 (n_1.Kids.map api_Node.pv)]), (3, g3, .row false 1 (l_16.map PV.str))], nx⟩))
        (fun i s => False)
        (fun s => False) ?_ ?_ ?_ ?_
      · refine awp_block ?_
        refine awp_loopJ fun I hI => ?_
        have key : ∀ (suf pre : List api_Attr) (v_6 : Int) (l_7 : (List Str)), n_1.Attrs = pre ++ suf → v_6 = (pre.length : Int) → codec_Head_l0 suf v_6 l_7 = some e0 → ∀ (nx : Nat) (g1 : Nat) (g3 : Nat), I ⟨[(1, .box 1 g1 0), (3, .row 3 g3 l_7.length), (25, .list 2 (n_1.Attrs.map api_Attr.pv)), (26, .int .i64 (n_1.Attrs.length : Int)), (27, .int .i64 v_6)], [(1, g1, .var 26 [.str n_1.Kind, .str n_1.Text, .list 1 (n_1.Marks.map PV.str), .list 2 (n_1.Attrs.map api_Attr.pv), .list 5 (n_1.Kids.map api_Node.pv)]), (3, g3, .row false 1 (l_7.map PV.str))], nx⟩ := by
          intro suf
          induction suf with
          | nil =>
            intro pre v_6 l_7 hsplit hidx hh nx g1 g3
            rw [codec_Head_l0] at hh
            refine hI _ ?_
            have h19 := walk_nil hsplit hidx
            refine awp_first fun K kk hK => ?_
            simp only [go_sem]
            refine hK _ _ fun nx => ?_; clear hK K; try clear kk
            refine awp_seq ?_
            refine awp_false (by first | exact congrArg PV.bool h19 | rfl) ?_
            refine awp_exit ?_; refine nmx ?_
            refine fragN ?_
            refine cut_id ?_
            refine ⟨_, (Option.some.inj hh), ?_⟩
            first | exact ⟨_, _, _, _, _, rfl⟩ | (simp only [api_Attr.pv_eq, api_Node.pv_eq, codec_reader.pv_eq, diptychref2_Reader.pv_eq, pvL, List.map_cons, List.map_nil, List.map_append, rune1]; exact ⟨_, _, _, _, _, rfl⟩) | (simp only [api_Attr.pv_eq, api_Node.pv_eq, codec_reader.pv_eq, diptychref2_Reader.pv_eq, pvL, List.map_cons, List.map_nil, List.map_append, rune1, h1, h19, h6]; exact ⟨_, _, _, _, _, rfl⟩)
          | cons y_11 suf ih =>
            intro pre v_6 l_7 hsplit hidx hh nx g1 g3
            rw [codec_Head_l0] at hh
            refine hI _ ?_
            obtain ⟨hl0a, hl0b, hl0d, hl0w, h19⟩ := walk_cons (f := api_Attr.pv) hsplit hidx hlen0
            refine awp_first fun K kk hK => ?_
            simp only [go_sem]
            refine hK _ _ fun nx => ?_; clear hK K; try clear kk
            refine awp_seq ?_
            refine awp_true (by first | exact congrArg PV.bool h19 | rfl) ?_
            refine awp_skip ?_; refine nmx ?_
            refine awp_seq ?_
            refine awp_block ?_
            refine awp_first fun K kk hK => ?_
            simp only [go_sem, hl0a, hl0b, hl0d, hl0w]
            refine hK _ _ fun nx => ?_; clear hK K; try clear kk
            obtain ⟨h20, hh⟩ := chk_some hh
            obtain ⟨quote_12, h21, hh⟩ := bind_ex hh
            obtain ⟨h22, hh⟩ := chk_some hh
            obtain ⟨l_13, h23, hh⟩ := bind_ex hh
            obtain ⟨h23a, h23c⟩ := app_some h23
            have h23d := app_map (f := PV.str) h23c
            have h23e := app_len h23c
            try simp only [List.length_cons, List.length_nil, Nat.zero_add, Nat.reduceAdd] at h23a h23e
            try simp only [h23e] at h23a
            try simp only [List.map_cons, List.map_nil, List.nil_append, List.append_nil, List.cons_append, List.singleton_append, rune1, api_Attr.pv_eq, api_Node.pv_eq, codec_reader.pv_eq, diptychref2_Reader.pv_eq, pvL] at h23d
            refine awp_region fun K kk hK => ?_
            simp only [go_sem, h20, h22, h23a, h23d, h23e, hl0a, hl0b, hl0d, hl0w]
            (repeat refine sd ?_)
            refine step_call2 (codec_Quote_ok _ _ h21) (by (try simp only [go_sem, h20, h22, h23a, h23d, h23e, hl0a, hl0b, hl0d, hl0w]) <;> exact wkl) (by rfl) (by rfl) ?_
            simp only [go_sem, h20, h22, h23a, h23d, h23e, hl0a, hl0b, hl0d, hl0w]
            (repeat refine sd ?_)
            refine hK _ _ fun nx => ?_; clear hK K; try clear kk
            refine nmx ?_
            refine awp_region fun K kk hK => ?_
            simp only [go_sem, hl0a, hl0b, hl0d, hl0w]
            refine hK _ _ fun nx => ?_; clear hK K; try clear kk
            refine nmx ?_
            have ih' := ih (pre ++ [y_11]) (v_6 + 1) _ (by rw [hsplit]; simp) (by simp [hidx]) hh nx
            refine cut_id ?_
            first | exact ih' _ _ | (simp only [api_Attr.pv_eq, api_Node.pv_eq, codec_reader.pv_eq, diptychref2_Reader.pv_eq, pvL, List.map_cons, List.map_nil, List.map_append, rune1, h23e] at ih' ⊢; exact ih' _ _) | (simp only [api_Attr.pv_eq, api_Node.pv_eq, codec_reader.pv_eq, diptychref2_Reader.pv_eq, pvL, List.map_cons, List.map_nil, List.map_append, rune1, h23e, h1, h19, h6] at ih' ⊢; exact ih' _ _)
        exact key n_1.Attrs [] _ _ rfl rfl f0 _ _ _
      · rintro s ⟨t, hless, l_16, rfl, v_14, v_15, nx, g1, g3, rfl⟩
        try dsimp only at hh
        refine nmy ?_
        first | (refine cut_less hless ?_; try refine cut_awp ?_) | refine frag_less hless ?_ | refine body_less hless ?_
        obtain ⟨h24, hh⟩ := chk_some hh
        obtain ⟨join_17, h25, hh⟩ := bind_ex hh
        obtain ⟨h26, hh⟩ := chk_some hh
        obtain ⟨h27, hh⟩ := chk_some hh
        refine first_fact (.nrm 3 [some 1]) ?_
        refine awp_first fun K kk hK => ?_
        simp only [go_sem, h24, h26, h27]
        (repeat refine sd ?_)
        refine step_call2 (strings_Join_ok _ _ _ h25) (by (try simp only [go_sem, h24, h26, h27]) <;> exact wkl) (by rfl) (by rfl) ?_
        simp only [go_sem, h24, h26, h27]
        (repeat refine sd ?_)
        refine hK _ _ fun nx => ?_; clear hK K; try clear kk
        refine awp_ret ?_; refine nmx ?_
        obtain hR := Option.some.inj hh
        subst hR
        exact ret_p2
      · intro i s h; exact h.elim
      · intro s h; exact h.elim
theorem strings_Builder_copyCheck_x_ok (l : Str) (R : (List UInt8)) (hh : strings_Builder_copyCheck_x l = some R) : BC Tryd.prog 75 [.box 1000 0 0] [.var 59 [.selfP 1000 0, .row 1001 0 l.length], .bytes 5 l] (.tup []) [.var 59 [.selfP 1000 0, .row 1001 0 R.length], .bytes 5 R] := by
  rw [strings_Builder_copyCheck_x] at hh
  exact lib_copyCheck ⟨_, Tryd.func75, by kernel_rfl, by kernel_rfl⟩ (Any.Builder_copyCheck_fresh (ρ := Tryd.lays165_ren) { Tryd.lays165 with } Tryd.Builder_Extra_165.toX72) (Any.Builder_copyCheck_used (ρ := Tryd.lays165_ren) { Tryd.lays165 with } Tryd.Builder_Extra_165.toX72) l R hh
theorem strings_Builder_WriteString_x_ok (s_1 : Str) (l_2 : (List UInt8)) (R : (Int × (List UInt8))) (hh : strings_Builder_WriteString_x s_1 l_2 = some R) : BC Tryd.prog 52 [.box 1000 0 0, .str s_1] [.var 59 [.selfP 1000 0, .row 1001 0 l_2.length], .bytes 5 l_2] (.tup [.int .i64 R.1, .nilI]) [.var 59 [.selfP 1000 0, .row 1001 0 R.2.length], .movedB 5 R.2] := by
  rw [strings_Builder_WriteString_x] at hh
  refine start_strings_Builder_WriteString_x rfl rfl rfl ?_
  refine awp_first fun K kk hK => ?_
  simp only [go_sem]
  refine hK _ _ fun nx => ?_; clear hK K; try clear kk
  obtain ⟨l_3, h1, hh⟩ := bind_ex hh
  refine awp_first fun K kk hK => ?_
  simp only [go_sem]
  refine step_callC [1000, 1001] (by decide) (strings_Builder_copyCheck_x_ok _ _ h1) (by (try simp only [go_sem]) <;> exact wkb) (by rfl) ?_
  simp only [go_sem]
  refine hK _ _ fun nx => ?_; clear hK K; try clear kk
  obtain ⟨l_4, h2, hh⟩ := bind_ex hh
  obtain ⟨h2a, h2c⟩ := app_some h2
  have h2d := app_map (f := pvB) h2c
  have h2e := app_len h2c
  try simp only [List.length_cons, List.length_nil, Nat.zero_add, Nat.reduceAdd] at h2a h2e
  try simp only [h2e] at h2a
  try simp only [List.map_cons, List.map_nil, List.nil_append, List.append_nil, List.cons_append, List.singleton_append, rune1, api_Attr.pv_eq, api_Node.pv_eq, codec_reader.pv_eq, diptychref2_Reader.pv_eq, pvL] at h2d
  refine awp_first fun K kk hK => ?_
  simp only [go_sem, h2a, h2c, h2e]
  (repeat refine sd ?_)
  refine hK _ _ fun nx => ?_; clear hK K; try clear kk
  refine awp_first fun K kk hK => ?_
  simp only [go_sem]
  refine hK _ _ fun nx => ?_; clear hK K; try clear kk
  refine awp_ret ?_; refine nmx ?_
  obtain hR := Option.some.inj hh
  subst hR
  refine ret_pureB ?_ (by rfl) ?_
  · simp only [go_sem, rvsRes, rvRes, cellRes, tupOf, pur2, List.map_cons, List.map_append, List.head?_cons]
    all_goals exact wkw
  · (try simp only [go_sem]); (try simp only [List.length_append, List.map_append, h2e]); all_goals exact wkb
theorem codec_write_x_grp : ∀ kr : Nat, (∀ (n_1 : api_Node) (l_2 : (List UInt8)) (R : (List UInt8)), codec_write_x_k kr n_1 l_2 = some R → BC Tryd.prog 33 [.box 1000 0 0, .agg [.str n_1.Kind, .str n_1.Text, .list 1 (n_1.Marks.map PV.str), .list 2 (n_1.Attrs.map api_Attr.pv), .list 5 (n_1.Kids.map api_Node.pv)]] [.var 59 [.selfP 1000 0, .row 1001 0 l_2.length], .bytes 5 l_2] (.tup []) [.var 59 [.selfP 1000 0, .row 1001 0 R.length], .movedB 5 R]) := by
  intro kr
  induction kr with
  | zero => exact (by intro n_1 l_2 R hh; rw [codec_write_x_k] at hh; cases hh)
  | succ kr ih =>
    have ih_codec_write_x := ih
    clear ih
    intro n_1 l_2 R hh
    rw [codec_write_x_k] at hh
    refine start_codec_write_x rfl rfl rfl ?_
    refine awp_first fun K kk hK => ?_
    simp only [go_sem]
    refine hK _ _ fun nx => ?_; clear hK K; try clear kk
    refine awp_seq ?_
    refine awp_first fun K kk hK => ?_
    simp only [go_sem]
    refine hK _ _ fun nx => ?_; clear hK K; try clear kk
    by_cases h1 : (n_1.Kind == ([116, 101, 120, 116] : Str)) = true
    · rw [if_pos h1] at hh
      refine awp_true (by first | exact congrArg PV.bool h1 | rfl) ?_
      obtain ⟨quote_3, h2, hh⟩ := bind_ex hh
      obtain ⟨head_4, h3, hh⟩ := bind_ex hh
      obtain ⟨h4, hh⟩ := chk_some hh
      obtain ⟨⟨r_5, l_6⟩, h5, hh⟩ := bind_ex hh
      dsimp only at hh
      refine awp_first fun K kk hK => ?_
      simp only [go_sem, h4]
      (repeat refine sd ?_)
      refine step_call2 (codec_Quote_ok _ _ h2) (by (try simp only [go_sem, h4]) <;> exact wkl) (by rfl) (by rfl) ?_
      simp only [go_sem, h4]
      (repeat refine sd ?_)
      refine step_call2 (codec_Head_ok _ _ h3) (by (try simp only [go_sem, h4]) <;> exact wkl) (by rfl) (by rfl) ?_
      simp only [go_sem, h4]
      (repeat refine sd ?_)
      refine step_callD [1000, 1001] (by decide) (by decide) (strings_Builder_WriteString_x_ok _ _ _ h5) (by (try simp only [go_sem, h4, h1]) <;> exact wkb) (by rfl) ?_
      simp only [go_sem, h4]
      (repeat refine sd ?_)
      refine hK _ _ fun nx => ?_; clear hK K; try clear kk
      refine awp_ret ?_; refine nmx ?_
      obtain hR := Option.some.inj hh
      subst hR
      refine ret_pureB ?_ (by rfl) ?_
      · simp only [go_sem, rvsRes, rvRes, cellRes, tupOf, pur2, List.map_cons, List.map_append, List.head?_cons, h1]
        all_goals exact wkw
      · (try simp only [go_sem, h1]); (try simp only [List.length_append, List.map_append]); all_goals exact wkb
    · rw [if_neg h1] at hh
      replace h1 := Bool.eq_false_iff.mpr h1
      refine awp_false (by first | exact congrArg PV.bool h1 | rfl) ?_
      refine awp_skip ?_; refine nmx ?_
      obtain ⟨head_7, h6, hh⟩ := bind_ex hh
      obtain ⟨h7, hh⟩ := chk_some hh
      obtain ⟨⟨r_8, l_9⟩, h8, hh⟩ := bind_ex hh
      dsimp only at hh
      refine awp_first fun K kk hK => ?_
      simp only [go_sem, h7]
      (repeat refine sd ?_)
      refine step_call2 (codec_Head_ok _ _ h6) (by (try simp only [go_sem, h7]) <;> exact wkl) (by rfl) (by rfl) ?_
      simp only [go_sem, h7]
      (repeat refine sd ?_)
      refine step_callC [1000, 1001] (by decide) (strings_Builder_WriteString_x_ok _ _ _ h8) (by (try simp only [go_sem, h7, h1]) <;> exact wkb) (by rfl) ?_
      simp only [go_sem, h7]
      (repeat refine sd ?_)
      refine hK _ _ fun nx => ?_; clear hK K; try clear kk
      refine awp_seq ?_
      refine awp_first fun K kk hK => ?_
      simp only [go_sem]
      refine hK _ _ fun nx => ?_; clear hK K; try clear kk
      obtain ⟨e0, f0, hh⟩ := bind_ex hh
      obtain ⟨hlen0, f0⟩ := chk_some f0
      refine awp_fragE (CutTo (fun s => ∃ v_20, v_20 = e0 ∧ ∃ (v_18 : Int) (v_19 : Bool) (nx : Nat) (g1001 : Nat), s = ⟨[(0, .box 1000 0 0), (23, .list 5 (n_1.Kids.map api_Node.pv)), (24, .int .i64 (n_1.Kids.length : Int)), (25, .int .i64 v_18), (26, .bool v_19)], [(1000, 0, .var 59 [.selfP 1000 0, .row 1001 g1001 v_20.length]), (1001, g1001, .bytes 5 v_20)], nx⟩))
        (fun i s => False)
        (fun s => False) ?_ ?_ ?_ ?_
      · refine awp_block ?_
        refine awp_loopJ fun I hI => ?_
        have key : ∀ (suf pre : List api_Node) (v_12 : Int) (v_13 : (List UInt8)), n_1.Kids = pre ++ suf → v_12 = (pre.length : Int) → codec_write_x_l0 (codec_write_x_k kr) suf v_12 v_13 = some e0 → ∀ (nx : Nat) (g1001 : Nat), I ⟨[(0, .box 1000 0 0), (23, .list 5 (n_1.Kids.map api_Node.pv)), (24, .int .i64 (n_1.Kids.length : Int)), (25, .int .i64 v_12)], [(1000, 0, .var 59 [.selfP 1000 0, .row 1001 g1001 v_13.length]), (1001, g1001, .bytes 5 v_13)], nx⟩ := by
          intro suf
          induction suf with
          | nil =>
            intro pre v_12 v_13 hsplit hidx hh nx g1001
            rw [codec_write_x_l0] at hh
            refine hI _ ?_
            have h15 := walk_nil hsplit hidx
            refine awp_first fun K kk hK => ?_
            simp only [go_sem]
            refine hK _ _ fun nx => ?_; clear hK K; try clear kk
            refine awp_seq ?_
            refine awp_false (by first | exact congrArg PV.bool h15 | rfl) ?_
            refine awp_exit ?_; refine nmx ?_
            refine fragN ?_
            refine cut_id ?_
            refine ⟨_, (Option.some.inj hh), ?_⟩
            first | exact ⟨_, _, _, _, rfl⟩ | (simp only [api_Attr.pv_eq, api_Node.pv_eq, codec_reader.pv_eq, diptychref2_Reader.pv_eq, pvL, List.map_cons, List.map_nil, List.map_append, rune1]; exact ⟨_, _, _, _, rfl⟩) | (simp only [api_Attr.pv_eq, api_Node.pv_eq, codec_reader.pv_eq, diptychref2_Reader.pv_eq, pvL, List.map_cons, List.map_nil, List.map_append, rune1, h1, h15]; exact ⟨_, _, _, _, rfl⟩)
          | cons y_16 suf ih =>
            intro pre v_12 v_13 hsplit hidx hh nx g1001
            rw [codec_write_x_l0] at hh
            refine hI _ ?_
            obtain ⟨hl0a, hl0b, hl0d, hl0w, h15⟩ := walk_cons (f := api_Node.pv) hsplit hidx hlen0
            refine awp_first fun K kk hK => ?_
            simp only [go_sem]
            refine hK _ _ fun nx => ?_; clear hK K; try clear kk
            refine awp_seq ?_
            refine awp_true (by first | exact congrArg PV.bool h15 | rfl) ?_
            refine awp_skip ?_; refine nmx ?_
            refine awp_seq ?_
            refine awp_block ?_
            refine awp_first fun K kk hK => ?_
            simp only [go_sem, hl0a, hl0b, hl0d, hl0w]
            refine hK _ _ fun nx => ?_; clear hK K; try clear kk
            obtain ⟨l_17, h16, hh⟩ := bind_ex hh
            refine awp_region fun K kk hK => ?_
            simp only [go_sem, hl0a, hl0b, hl0d, hl0w]
            refine step_callC [1000, 1001] (by decide) (ih_codec_write_x _ _ _ h16) (by (try simp only [go_sem, hl0a, hl0b, hl0d, hl0w, h1, h15]) <;> exact wkb) (by rfl) ?_
            simp only [go_sem, hl0a, hl0b, hl0d, hl0w]
            refine hK _ _ fun nx => ?_; clear hK K; try clear kk
            refine nmx ?_
            refine awp_region fun K kk hK => ?_
            simp only [go_sem, hl0a, hl0b, hl0d, hl0w]
            refine hK _ _ fun nx => ?_; clear hK K; try clear kk
            refine nmx ?_
            have ih' := ih (pre ++ [y_16]) (v_12 + 1) _ (by rw [hsplit]; simp) (by simp [hidx]) hh nx
            refine cut_id ?_
            first | exact ih' _ | (simp only [api_Attr.pv_eq, api_Node.pv_eq, codec_reader.pv_eq, diptychref2_Reader.pv_eq, pvL, List.map_cons, List.map_nil, List.map_append, rune1] at ih' ⊢; exact ih' _) | (simp only [api_Attr.pv_eq, api_Node.pv_eq, codec_reader.pv_eq, diptychref2_Reader.pv_eq, pvL, List.map_cons, List.map_nil, List.map_append, rune1, h1, h15] at ih' ⊢; exact ih' _)
        exact key n_1.Kids [] _ _ rfl rfl f0 _ _
      · rintro s ⟨t, hless, v_20, rfl, v_18, v_19, nx, g1001, rfl⟩
        try dsimp only at hh
        refine nmy ?_
        first | (refine cut_less hless ?_; try refine cut_awp ?_) | refine frag_less hless ?_ | refine body_less hless ?_
        obtain ⟨⟨r_21, l_22⟩, h17, hh⟩ := bind_ex hh
        dsimp only at hh
        refine awp_region fun K kk hK => ?_
        simp only [go_sem]
        refine step_callC [1000, 1001] (by decide) (strings_Builder_WriteString_x_ok _ _ _ h17) (by (try simp only [go_sem, h1]) <;> exact wkb) (by rfl) ?_
        simp only [go_sem]
        refine hK _ _ fun nx => ?_; clear hK K; try clear kk
        refine nmx ?_
        obtain hR := Option.some.inj hh
        subst hR
        refine body_end ?_
        refine ret_pureB ?_ (by rfl) ?_
        · simp only [go_sem, rvsRes, rvRes, cellRes, tupOf, pur2, List.map_cons, List.map_append, List.head?_cons, h1]
          all_goals exact wkw
        · (try simp only [go_sem, h1]); (try simp only [List.length_append, List.map_append]); all_goals exact wkb
      · intro i s h; exact h.elim
      · intro s h; exact h.elim
theorem codec_write_x_ok (n_1 : api_Node) (l_2 : (List UInt8)) (R : (List UInt8)) (hh : codec_write_x n_1 l_2 = some R) : BC Tryd.prog 33 [.box 1000 0 0, .agg [.str n_1.Kind, .str n_1.Text, .list 1 (n_1.Marks.map PV.str), .list 2 (n_1.Attrs.map api_Attr.pv), .list 5 (n_1.Kids.map api_Node.pv)]] [.var 59 [.selfP 1000 0, .row 1001 0 l_2.length], .bytes 5 l_2] (.tup []) [.var 59 [.selfP 1000 0, .row 1001 0 R.length], .movedB 5 R] := by
  rw [codec_write_x] at hh
  obtain ⟨kr, hh⟩ := lim_some hh
  exact (codec_write_x_grp kr) _ _ _ hh
theorem strings_Builder_String_x_ok (l : Str) (R : (Str × (List UInt8))) (hh : strings_Builder_String_x l = some R) : BC Tryd.prog 34 [.box 1000 0 0] [.var 59 [.selfP 1000 0, .row 1001 0 l.length], .bytes 5 l] (.str R.1) [.var 59 [.selfP 1000 0, .undef], .gone] := by
  rw [strings_Builder_String_x] at hh
  exact lib_builderString (ρ := Tryd.lays169_ren) Tryd.lays169 Tryd.Builder_Extra_169 ⟨_, Tryd.func34, by kernel_rfl, by kernel_rfl⟩ l R hh
theorem codec_Print_ok (n_1 : api_Node) (R : (Str × Int)) (hh : codec_Print n_1 = some R) : PC Tryd.prog 12 [.agg [.str n_1.Kind, .str n_1.Text, .list 1 (n_1.Marks.map PV.str), .list 2 (n_1.Attrs.map api_Attr.pv), .list 5 (n_1.Kids.map api_Node.pv)]] (.tup [.str R.1, .int .i64 R.2]) := by
  rw [codec_Print] at hh
  refine start_codec_Print rfl ?_
  refine awp_first fun K kk hK => ?_
  simp only [go_sem]
  refine hK _ _ fun nx => ?_; clear hK K; try clear kk
  refine awp_seq ?_
  obtain ⟨check_2, h1, hh⟩ := bind_ex hh
  refine awp_first fun K kk hK => ?_
  simp only [go_sem]
  refine step_call2 (node_Check_ok _ _ h1) (by (try simp only [go_sem]) <;> exact wkl) (by rfl) (by rfl) ?_
  simp only [go_sem]
  refine hK _ _ fun nx => ?_; clear hK K; try clear kk
  refine awp_first fun K kk hK => ?_
  simp only [go_sem]
  refine hK _ _ fun nx => ?_; clear hK K; try clear kk
  by_cases h2 : (check_2 != (0 : Int)) = true
  · rw [if_pos h2] at hh
    refine awp_true (by first | exact congrArg PV.bool h2 | rfl) ?_
    refine awp_first fun K kk hK => ?_
    simp only [go_sem]
    refine hK _ _ fun nx => ?_; clear hK K; try clear kk
    refine awp_ret ?_; refine nmx ?_
    obtain hR := Option.some.inj hh
    subst hR
    exact ret_p2
  · rw [if_neg h2] at hh
    replace h2 := Bool.eq_false_iff.mpr h2
    refine awp_false (by first | exact congrArg PV.bool h2 | rfl) ?_
    refine awp_skip ?_; refine nmx ?_
    refine awp_first fun K kk hK => ?_
    simp only [go_sem]
    refine hK _ _ fun nx => ?_; clear hK K; try clear kk
    obtain ⟨l_3, h3, hh⟩ := bind_ex hh
    refine awp_first fun K kk hK => ?_
    simp only [go_sem]
    refine step_callC [5, 336] (by decide) (codec_write_x_ok _ _ _ h3) (by (try simp only [go_sem, h2]) <;> exact wkb) (by rfl) ?_
    simp only [go_sem]
    refine hK _ _ fun nx => ?_; clear hK K; try clear kk
    obtain ⟨⟨r_4, l_5⟩, h4, hh⟩ := bind_ex hh
    dsimp only at hh
    refine awp_first fun K kk hK => ?_
    simp only [go_sem]
    refine step_callC [5, 336] (by decide) (strings_Builder_String_x_ok _ _ h4) (by (try simp only [go_sem, h2]) <;> exact wkb) (by rfl) ?_
    simp only [go_sem]
    refine hK _ _ fun nx => ?_; clear hK K; try clear kk
    refine awp_ret ?_; refine nmx ?_
    obtain hR := Option.some.inj hh
    subst hR
    exact ret_p2
theorem diptychlaw2_shown_ok (R : Bool) (hh : diptychlaw2_shown = some R) : PC Tryd.prog 10 [] (.bool R) := by
  rw [diptychlaw2_shown] at hh
  refine start_diptychlaw2_shown rfl ?_
  refine awp_first fun K kk hK => ?_
  simp only [go_sem]
  refine hK _ _ fun nx => ?_; clear hK K; try clear kk
  refine awp_first fun K kk hK => ?_
  simp only [go_sem]
  refine hK _ _ fun nx => ?_; clear hK K; try clear kk
  refine awp_first fun K kk hK => ?_
  simp only [go_sem]
  refine hK _ _ fun nx => ?_; clear hK K; try clear kk
  obtain ⟨⟨r_1, r_2⟩, h1, hh⟩ := bind_ex hh
  dsimp only at hh
  refine awp_first fun K kk hK => ?_
  simp only [go_sem]
  refine step_call2 (codec_Print_ok _ _ h1) (by (try simp only [go_sem]) <;> exact wkl) (by rfl) (by rfl) ?_
  simp only [go_sem]
  refine hK _ _ fun nx => ?_; clear hK K; try clear kk
  by_cases h2 : (r_1 == ([100, 111, 99, 91, 112, 97, 114, 97, 40, 97, 108, 105, 103, 110, 61, 34, 108, 101, 102, 116, 34, 41, 91, 34, 104, 105, 34, 34, 33, 34, 60, 98, 62, 93, 93] : Str)) = true
  · rw [if_pos h2] at hh
    refine awp_first fun K kk hK => ?_
    simp only [go_sem, h2, h2]
    (repeat refine sd ?_)
    refine hK _ _ fun nx => ?_; clear hK K; try clear kk
    refine awp_ret ?_; refine nmx ?_
    obtain hR := Option.some.inj hh
    subst hR
    exact ret_p2
  · rw [if_neg h2] at hh
    replace h2 := Bool.eq_false_iff.mpr h2
    refine awp_first fun K kk hK => ?_
    simp only [go_sem, h2, h2]
    (repeat refine sd ?_)
    refine hK _ _ fun nx => ?_; clear hK K; try clear kk
    refine awp_ret ?_; refine nmx ?_
    obtain hR := Option.some.inj hh
    subst hR
    exact ret_p2
theorem internal_stringslite_HasPrefix_ok (s_1 : Str) (prefix_2 : Str) (R : Bool) (hh : internal_stringslite_HasPrefix s_1 prefix_2 = some R) : PC Tryd.prog 82 [.str s_1, .str prefix_2] (.bool R) := by
  rw [internal_stringslite_HasPrefix] at hh
  refine start_internal_stringslite_HasPrefix rfl ?_
  refine awp_first fun K kk hK => ?_
  simp only [go_sem]
  refine hK _ _ fun nx => ?_; clear hK K; try clear kk
  by_cases h1 : (decide ((s_1.length : Int) ≥ (prefix_2.length : Int))) = true
  · rw [if_pos h1] at hh
    obtain ⟨s_3, h2, hh⟩ := bind_ex hh
    obtain ⟨h2a, h2c⟩ := sl_some h2
    have h2g := sl_le h2a
    have h2d := sl_str0 h2c
    try simp only [Int.toNat_natCast, Int.reduceToNat] at h2d
    refine awp_first fun K kk hK => ?_
    simp only [go_sem, h1, of_decide_eq_true h1, h2a.1, h2a.2.1, h2a.2.2, h2d, h2g, h1, of_decide_eq_true h1]
    (repeat refine sd ?_)
    refine hK _ _ fun nx => ?_; clear hK K; try clear kk
    refine awp_ret ?_; refine nmx ?_
    obtain hR := Option.some.inj hh
    subst hR
    exact ret_p2
  · rw [if_neg h1] at hh
    replace h1 := Bool.eq_false_iff.mpr h1
    refine awp_first fun K kk hK => ?_
    simp only [go_sem, h1, of_decide_eq_false h1, h1, of_decide_eq_false h1]
    (repeat refine sd ?_)
    refine hK _ _ fun nx => ?_; clear hK K; try clear kk
    refine awp_ret ?_; refine nmx ?_
    obtain hR := Option.some.inj hh
    subst hR
    exact ret_p2
theorem strings_HasPrefix_ok (s_1 : Str) (prefix_2 : Str) (R : Bool) (hh : strings_HasPrefix s_1 prefix_2 = some R) : PC Tryd.prog 58 [.str s_1, .str prefix_2] (.bool R) := by
  rw [strings_HasPrefix] at hh
  refine start_strings_HasPrefix rfl ?_
  refine awp_first fun K kk hK => ?_
  simp only [go_sem]
  refine hK _ _ fun nx => ?_; clear hK K; try clear kk
  obtain ⟨haspre_3, h1, hh⟩ := bind_ex hh
  refine awp_first fun K kk hK => ?_
  simp only [go_sem]
  refine step_call2 (internal_stringslite_HasPrefix_ok _ _ _ h1) (by (try simp only [go_sem]) <;> exact wkl) (by rfl) (by rfl) ?_
  simp only [go_sem]
  refine hK _ _ fun nx => ?_; clear hK K; try clear kk
  refine awp_ret ?_; refine nmx ?_
  obtain hR := Option.some.inj hh
  subst hR
  exact ret_p2
theorem strings_TrimLeft_ok (s : Str) (cutset : Str) (R : Str) (hh : strings_TrimLeft s cutset = some R) : PC Tryd.prog 83 [.str s, .str cutset] (.str R) := by
  rw [strings_TrimLeft] at hh
  exact lib_trim (tr := Lib.trimLeftS) ⟨_, Tryd.func83, by kernel_rfl, by kernel_rfl⟩ (fun s c w h1 h2 h3 => Any.strings_TrimLeft_laid Tryd.lays161 (by kernel_rfl) s c w h2 h3) s cutset R hh
theorem codec_reader_name_x_ok (reader_1 : codec_reader) (R : (Str × codec_reader)) (hh : codec_reader_name_x reader_1 = some R) : BC Tryd.prog 60 [.box 1000 0 0] [.var 71 [.str reader_1.left, .bool reader_1.bad]] (.str R.1) [.var 71 [.str R.2.left, .bool R.2.bad]] := by
  rw [codec_reader_name_x] at hh
  refine start_codec_reader_name_x rfl rfl rfl ?_
  refine awp_first fun K kk hK => ?_
  simp only [go_sem]
  refine hK _ _ fun nx => ?_; clear hK K; try clear kk
  obtain ⟨trimle_2, h1, hh⟩ := bind_ex hh
  refine awp_first fun K kk hK => ?_
  simp only [go_sem]
  refine step_call2 (strings_TrimLeft_ok _ _ _ h1) (by (try simp only [go_sem]) <;> exact wkl) (by rfl) (by rfl) ?_
  simp only [go_sem]
  refine hK _ _ fun nx => ?_; clear hK K; try clear kk
  obtain ⟨s_3, h2, hh⟩ := bind_ex hh
  obtain ⟨h2a, h2c⟩ := sl_some h2
  have h2g := sl_le h2a
  have h2d := sl_str0 h2c
  try simp only [Int.toNat_natCast, Int.reduceToNat] at h2d
  refine awp_first fun K kk hK => ?_
  simp only [go_sem, h2a.1, h2a.2.1, h2a.2.2, h2d, h2g]
  (repeat refine sd ?_)
  refine hK _ _ fun nx => ?_; clear hK K; try clear kk
  refine awp_first fun K kk hK => ?_
  simp only [go_sem]
  refine hK _ _ fun nx => ?_; clear hK K; try clear kk
  refine awp_first fun K kk hK => ?_
  simp only [go_sem]
  refine hK _ _ fun nx => ?_; clear hK K; try clear kk
  refine awp_ret ?_; refine nmx ?_
  obtain hR := Option.some.inj hh
  subst hR
  refine ret_pureB ?_ (by rfl) ?_
  · simp only [go_sem, rvsRes, rvRes, cellRes, tupOf, pur2, List.map_cons, List.map_append, List.head?_cons]
    all_goals exact wkw
  · (try simp only [go_sem]); (try simp only [List.length_append, List.map_append]); all_goals exact wkb
theorem internal_stringslite_CutPrefix_ok (s_1 : Str) (prefix_2 : Str) (R : (Str × Bool)) (hh : internal_stringslite_CutPrefix s_1 prefix_2 = some R) : PC Tryd.prog 100 [.str s_1, .str prefix_2] (.tup [.str R.1, .bool R.2]) := by
  rw [internal_stringslite_CutPrefix] at hh
  refine start_internal_stringslite_CutPrefix rfl ?_
  refine awp_first fun K kk hK => ?_
  simp only [go_sem]
  refine hK _ _ fun nx => ?_; clear hK K; try clear kk
  refine awp_seq ?_
  obtain ⟨haspre_3, h1, hh⟩ := bind_ex hh
  refine awp_first fun K kk hK => ?_
  simp only [go_sem]
  refine step_call2 (internal_stringslite_HasPrefix_ok _ _ _ h1) (by (try simp only [go_sem]) <;> exact wkl) (by rfl) (by rfl) ?_
  simp only [go_sem]
  refine hK _ _ fun nx => ?_; clear hK K; try clear kk
  by_cases h2 : (!haspre_3) = true
  · rw [if_pos h2] at hh
    refine awp_true (by first | exact congrArg PV.bool h2 | rfl) ?_
    refine awp_first fun K kk hK => ?_
    simp only [go_sem]
    refine hK _ _ fun nx => ?_; clear hK K; try clear kk
    refine awp_ret ?_; refine nmx ?_
    obtain hR := Option.some.inj hh
    subst hR
    exact ret_p2
  · rw [if_neg h2] at hh
    replace h2 := Bool.eq_false_iff.mpr h2
    refine awp_false (by first | exact congrArg PV.bool h2 | rfl) ?_
    refine awp_skip ?_; refine nmx ?_
    obtain ⟨s_4, h3, hh⟩ := bind_ex hh
    obtain ⟨h3a, h3c⟩ := sl_some h3
    have h3g := sl_le h3a
    have h3d := sl_str1 h3c
    try simp only [Int.toNat_natCast, Int.reduceToNat] at h3d
    refine awp_first fun K kk hK => ?_
    simp only [go_sem, h3a.1, h3a.2.1, h3a.2.2, h3d, h3g]
    (repeat refine sd ?_)
    refine hK _ _ fun nx => ?_; clear hK K; try clear kk
    refine awp_ret ?_; refine nmx ?_
    obtain hR := Option.some.inj hh
    subst hR
    exact ret_p2
theorem strings_CutPrefix_ok (s_1 : Str) (prefix_2 : Str) (R : (Str × Bool)) (hh : strings_CutPrefix s_1 prefix_2 = some R) : PC Tryd.prog 84 [.str s_1, .str prefix_2] (.tup [.str R.1, .bool R.2]) := by
  rw [strings_CutPrefix] at hh
  refine start_strings_CutPrefix rfl ?_
  refine awp_first fun K kk hK => ?_
  simp only [go_sem]
  refine hK _ _ fun nx => ?_; clear hK K; try clear kk
  obtain ⟨⟨r_3, r_4⟩, h1, hh⟩ := bind_ex hh
  dsimp only at hh
  refine awp_first fun K kk hK => ?_
  simp only [go_sem]
  refine step_call2 (internal_stringslite_CutPrefix_ok _ _ _ h1) (by (try simp only [go_sem]) <;> exact wkl) (by rfl) (by rfl) ?_
  simp only [go_sem]
  refine hK _ _ fun nx => ?_; clear hK K; try clear kk
  refine awp_ret ?_; refine nmx ?_
  obtain hR := Option.some.inj hh
  subst hR
  exact ret_p2
theorem codec_reader_takes_x_ok (sign_1 : Str) (reader_2 : codec_reader) (R : (Bool × codec_reader)) (hh : codec_reader_takes_x sign_1 reader_2 = some R) : BC Tryd.prog 61 [.box 1000 0 0, .str sign_1] [.var 71 [.str reader_2.left, .bool reader_2.bad]] (.bool R.1) [.var 71 [.str R.2.left, .bool R.2.bad]] := by
  rw [codec_reader_takes_x] at hh
  refine start_codec_reader_takes_x rfl rfl rfl ?_
  refine awp_first fun K kk hK => ?_
  simp only [go_sem]
  refine hK _ _ fun nx => ?_; clear hK K; try clear kk
  obtain ⟨⟨r_3, r_4⟩, h1, hh⟩ := bind_ex hh
  dsimp only at hh
  refine awp_first fun K kk hK => ?_
  simp only [go_sem]
  refine step_call2 (strings_CutPrefix_ok _ _ _ h1) (by (try simp only [go_sem]) <;> exact wkl) (by rfl) (by rfl) ?_
  simp only [go_sem]
  refine hK _ _ fun nx => ?_; clear hK K; try clear kk
  refine awp_first fun K kk hK => ?_
  simp only [go_sem]
  refine hK _ _ fun nx => ?_; clear hK K; try clear kk
  refine awp_first fun K kk hK => ?_
  simp only [go_sem]
  refine hK _ _ fun nx => ?_; clear hK K; try clear kk
  refine awp_ret ?_; refine nmx ?_
  obtain hR := Option.some.inj hh
  subst hR
  refine ret_pureB ?_ (by rfl) ?_
  · simp only [go_sem, rvsRes, rvRes, cellRes, tupOf, pur2, List.map_cons, List.map_append, List.head?_cons]
    all_goals exact wkw
  · (try simp only [go_sem]); (try simp only [List.length_append, List.map_append]); all_goals exact wkb
theorem codec_reader_want_x_ok (sign_1 : Str) (reader_2 : codec_reader) (R : codec_reader) (hh : codec_reader_want_x sign_1 reader_2 = some R) : BC Tryd.prog 62 [.box 1000 0 0, .str sign_1] [.var 71 [.str reader_2.left, .bool reader_2.bad]] (.tup []) [.var 71 [.str R.left, .bool R.bad]] := by
  rw [codec_reader_want_x] at hh
  refine start_codec_reader_want_x rfl rfl rfl ?_
  obtain ⟨⟨r_3, reader_4⟩, h1, hh⟩ := bind_ex hh
  dsimp only at hh
  by_cases h2 : (!r_3) = true
  · rw [if_pos h2] at hh
    refine awp_region fun K kk hK => ?_
    simp only [go_sem, h2, h2]
    (repeat refine sd ?_)
    refine step_callC [1000] (by decide) (codec_reader_takes_x_ok _ _ _ h1) (by (try simp only [go_sem, h2, h2]) <;> exact wkb) (by rfl) ?_
    simp only [go_sem, h2, h2]
    (repeat refine sd ?_)
    refine hK _ _ fun nx => ?_; clear hK K; try clear kk
    refine nmx ?_
    obtain hR := Option.some.inj hh
    subst hR
    refine body_end ?_
    refine ret_pureB ?_ (by rfl) ?_
    · simp only [go_sem, rvsRes, rvRes, cellRes, tupOf, pur2, List.map_cons, List.map_append, List.head?_cons, h2]
      all_goals exact wkw
    · (try simp only [go_sem, h2]); (try simp only [List.length_append, List.map_append]); all_goals exact wkb
  · rw [if_neg h2] at hh
    replace h2 := Bool.eq_false_iff.mpr h2
    refine awp_region fun K kk hK => ?_
    simp only [go_sem, h2, h2]
    (repeat refine sd ?_)
    refine step_callC [1000] (by decide) (codec_reader_takes_x_ok _ _ _ h1) (by (try simp only [go_sem, h2, h2]) <;> exact wkb) (by rfl) ?_
    simp only [go_sem, h2, h2]
    (repeat refine sd ?_)
    refine hK _ _ fun nx => ?_; clear hK K; try clear kk
    refine nmx ?_
    obtain hR := Option.some.inj hh
    subst hR
    refine body_end ?_
    refine ret_pureB ?_ (by rfl) ?_
    · simp only [go_sem, rvsRes, rvRes, cellRes, tupOf, pur2, List.map_cons, List.map_append, List.head?_cons, h2]
      all_goals exact wkw
    · (try simp only [go_sem, h2]); (try simp only [List.length_append, List.map_append]); all_goals exact wkb
theorem codec_reader_quoted_x_ok (reader_1 : codec_reader) (R : (Str × codec_reader)) (hh : codec_reader_quoted_x reader_1 = some R) : BC Tryd.prog 63 [.box 1000 0 0] [.var 71 [.str reader_1.left, .bool reader_1.bad]] (.str R.1) [.var 71 [.str R.2.left, .bool R.2.bad]] := by
  rw [codec_reader_quoted_x] at hh
  refine start_codec_reader_quoted_x rfl rfl rfl ?_
  refine awp_first fun K kk hK => ?_
  simp only [go_sem]
  refine hK _ _ fun nx => ?_; clear hK K; try clear kk
  obtain ⟨reader_2, h1, hh⟩ := bind_ex hh
  refine awp_first fun K kk hK => ?_
  simp only [go_sem]
  refine step_callC [1000] (by decide) (codec_reader_want_x_ok _ _ _ h1) (by (try simp only [go_sem]) <;> exact wkb) (by rfl) ?_
  simp only [go_sem]
  refine hK _ _ fun nx => ?_; clear hK K; try clear kk
  refine awp_first fun K kk hK => ?_
  simp only [go_sem]
  refine hK _ _ fun nx => ?_; clear hK K; try clear kk
  refine awp_seq ?_
  refine awp_first fun K kk hK => ?_
  simp only [go_sem]
  refine hK _ _ fun nx => ?_; clear hK K; try clear kk
  obtain ⟨e0, f0, hh⟩ := bind_ex hh
  refine awp_fragE (CutTo (fun s => .inr () = e0 ∧ ∃ (i_14 : Int) (v_15 : Bool) (s_16 : (List Int)) (nx : Nat) (g3 : Nat), s = ⟨[(0, .box 1000 0 0), (3, .row 3 g3 s_16.length), (4, .int .i64 i_14), (21, .bool v_15)], [(3, g3, .row false 1 (s_16.map (PV.int .u8))), (1000, 0, .var 71 [.str reader_2.left, .bool reader_2.bad])], nx⟩))
    (fun i s => False)
    (fun s => ∃ res_13, .inl res_13 = e0 ∧ bodyR Tryd.prog [.tmp 2] (.str res_13.1) [.var 71 [.str res_13.2.left, .bool res_13.2.bad]] .ret s) ?_ ?_ ?_ ?_
  · refine awp_block ?_
    refine awp_loopJ fun I hI => ?_
    obtain ⟨k, f0⟩ := lim_some f0
    have key : ∀ (k : Nat) (i_7 : Int) (s_8 : (List Int)), codec_reader_quoted_x_l0 reader_2 k i_7 s_8 = some e0 → ∀ (nx : Nat) (g3 : Nat), I ⟨[(0, .box 1000 0 0), (3, .row 3 g3 s_8.length), (4, .int .i64 i_7)], [(3, g3, .row false 1 (s_8.map (PV.int .u8))), (1000, 0, .var 71 [.str reader_2.left, .bool reader_2.bad])], nx⟩ := by
      intro k
      induction k with
      | zero => intro i_7 s_8 hh; rw [codec_reader_quoted_x_l0] at hh; cases hh
      | succ k ih =>
        intro i_7 s_8 hh nx g3
        rw [codec_reader_quoted_x_l0] at hh
        refine hI _ ?_
        refine awp_seq ?_
        by_cases h11 : (decide (i_7 < (reader_2.left.length : Int))) = true
        · rw [if_pos h11] at hh
          refine awp_first fun K kk hK => ?_
          simp only [go_sem, h11, of_decide_eq_true h11, h11, of_decide_eq_true h11]
          (repeat refine sd ?_)
          refine hK _ _ fun nx => ?_; clear hK K; try clear kk
          by_cases h12 : (!reader_2.bad) = true
          · rw [if_pos h12] at hh
            refine awp_true (by first | exact congrArg PV.bool h12 | rfl) ?_
            refine awp_skip ?_; refine nmx ?_
            refine awp_seq ?_
            refine awp_block ?_
            refine awp_seq ?_
            obtain ⟨e2, f2, hh⟩ := bind_ex hh
            refine awp_frag (fun s => ∃ i_11, .inr i_11 = e2 ∧ ∃ (nx : Nat) (g3 : Nat), s = ⟨[(0, .box 1000 0 0), (3, .row 3 g3 s_8.length), (4, .int .i64 i_11)], [(3, g3, .row false 1 (s_8.map (PV.int .u8))), (1000, 0, .var 71 [.str reader_2.left, .bool reader_2.bad])], nx⟩)
              (fun i s => False)
              (fun s => ∃ res_10, .inl res_10 = e2 ∧ bodyR Tryd.prog [.tmp 2] (.str res_10.1) [.var 71 [.str res_10.2.left, .bool res_10.2.bad]] .ret s) ?_ ?_ ?_ ?_
            · have hh := f2
              obtain ⟨h13, hh⟩ := chk_some hh
              refine awp_first fun K kk hK => ?_
              simp only [go_sem, h13.1, h13.2]
              (repeat refine sd ?_)
              refine hK _ _ fun nx => ?_; clear hK K; try clear kk
              refine awp_block ?_
              refine awp_first fun K kk hK => ?_
              simp only [go_sem]
              refine hK _ _ fun nx => ?_; clear hK K; try clear kk
              by_cases h14 : (((reader_2.left.getD i_7.toNat 0).toNat : Int) == (34 : Int)) = true
              · rw [if_pos h14] at hh
                refine awp_true (by first | exact congrArg PV.bool h14 | rfl) ?_
                obtain ⟨s_9, h15, hh⟩ := bind_ex hh
                obtain ⟨h15a, h15c⟩ := sl_some h15
                have h15g := sl_le h15a
                have h15d := sl_str1 h15c
                try simp only [Int.toNat_natCast, Int.reduceToNat] at h15d
                refine awp_first fun K kk hK => ?_
                simp only [go_sem, h15a.1, h15a.2.1, h15a.2.2, h15d, h15g]
                (repeat refine sd ?_)
                refine hK _ _ fun nx => ?_; clear hK K; try clear kk
                refine awp_first fun K kk hK => ?_
                simp only [go_sem]
                refine hK _ _ fun nx => ?_; clear hK K; try clear kk
                refine awp_ret ?_; refine nmx ?_
                refine fragR ⟨_, (Option.some.inj hh), ?_⟩
                refine ret_pureB ?_ (by rfl) ?_
                · simp only [go_sem, rvsRes, rvRes, cellRes, tupOf, pur2, List.map_cons, List.map_append, List.head?_cons, h11, h12, h14]
                  all_goals exact wkw
                · (try simp only [go_sem, h11, h12, h14]); (try simp only [List.length_append, List.map_append]); all_goals exact wkb
              · rw [if_neg h14] at hh
                replace h14 := Bool.eq_false_iff.mpr h14
                refine awp_false (by first | exact congrArg PV.bool h14 | rfl) ?_
                refine awp_first fun K kk hK => ?_
                simp only [go_sem]
                refine hK _ _ fun nx => ?_; clear hK K; try clear kk
                by_cases h16 : (((reader_2.left.getD i_7.toNat 0).toNat : Int) == (92 : Int)) = true
                · rw [if_pos h16] at hh
                  refine awp_true (by first | exact congrArg PV.bool h16 | rfl) ?_
                  refine awp_region fun K kk hK => ?_
                  simp only [go_sem]
                  refine hK _ _ fun nx => ?_; clear hK K; try clear kk
                  refine nmx ?_
                  refine fragN ?_
                  refine cut_id ?_
                  refine ⟨_, (Option.some.inj hh), ?_⟩
                  first | exact ⟨_, _, rfl⟩ | (simp only [api_Attr.pv_eq, api_Node.pv_eq, codec_reader.pv_eq, diptychref2_Reader.pv_eq, pvL, List.map_cons, List.map_nil, List.map_append, rune1]; exact ⟨_, _, rfl⟩) | (simp only [api_Attr.pv_eq, api_Node.pv_eq, codec_reader.pv_eq, diptychref2_Reader.pv_eq, pvL, List.map_cons, List.map_nil, List.map_append, rune1, h11, h12, h14, h16]; exact ⟨_, _, rfl⟩)
                · rw [if_neg h16] at hh
                  replace h16 := Bool.eq_false_iff.mpr h16
                  refine awp_false (by first | exact congrArg PV.bool h16 | rfl) ?_
                  refine awp_skip ?_; refine nmx ?_
                  refine fragN ?_
                  refine cut_to (less_cut _ [0, 3, 4] [3, 1000]) ?_
                  refine ⟨_, (Option.some.inj hh), ?_⟩
                  first | exact ⟨_, _, rfl⟩ | (simp only [api_Attr.pv_eq, api_Node.pv_eq, codec_reader.pv_eq, diptychref2_Reader.pv_eq, pvL, List.map_cons, List.map_nil, List.map_append, rune1]; exact ⟨_, _, rfl⟩) | (simp only [api_Attr.pv_eq, api_Node.pv_eq, codec_reader.pv_eq, diptychref2_Reader.pv_eq, pvL, List.map_cons, List.map_nil, List.map_append, rune1, h11, h12, h14, h16]; exact ⟨_, _, rfl⟩)
            · rintro s ⟨i_11, rfl, nx, g3, rfl⟩
              try dsimp only at hh
              refine awp_first fun K kk hK => ?_
              simp only [go_sem]
              refine hK _ _ fun nx => ?_; clear hK K; try clear kk
              by_cases h17 : (decide (i_11 < (reader_2.left.length : Int))) = true
              · rw [if_pos h17] at hh
                refine awp_true (by first | exact congrArg PV.bool h17 | rfl) ?_
                obtain ⟨h18, hh⟩ := chk_some hh
                obtain ⟨l_12, h19, hh⟩ := bind_ex hh
                obtain ⟨h19a, h19c⟩ := app_some h19
                have h19d := app_map (f := (PV.int .u8)) h19c
                have h19e := app_len h19c
                try simp only [List.length_cons, List.length_nil, Nat.zero_add, Nat.reduceAdd] at h19a h19e
                try simp only [h19e] at h19a
                try simp only [List.map_cons, List.map_nil, List.nil_append, List.append_nil, List.cons_append, List.singleton_append, rune1, api_Attr.pv_eq, api_Node.pv_eq, codec_reader.pv_eq, diptychref2_Reader.pv_eq, pvL] at h19d
                refine awp_region fun K kk hK => ?_
                simp only [go_sem, h18.1, h18.2, h19a, h19d, h19e]
                (repeat refine sd ?_)
                refine hK _ _ fun nx => ?_; clear hK K; try clear kk
                refine nmx ?_
                refine awp_region fun K kk hK => ?_
                simp only [go_sem]
                refine hK _ _ fun nx => ?_; clear hK K; try clear kk
                refine nmx ?_
                have ih' := ih _ _ hh nx
                refine cut_id ?_
                first | exact ih' _ | (simp only [api_Attr.pv_eq, api_Node.pv_eq, codec_reader.pv_eq, diptychref2_Reader.pv_eq, pvL, List.map_cons, List.map_nil, List.map_append, rune1, h19e] at ih' ⊢; exact ih' _) | (simp only [api_Attr.pv_eq, api_Node.pv_eq, codec_reader.pv_eq, diptychref2_Reader.pv_eq, pvL, List.map_cons, List.map_nil, List.map_append, rune1, h19e, h11, h12, h17] at ih' ⊢; exact ih' _)
              · rw [if_neg h17] at hh
                replace h17 := Bool.eq_false_iff.mpr h17
                refine awp_false (by first | exact congrArg PV.bool h17 | rfl) ?_
                refine awp_skip ?_; refine nmx ?_
                refine awp_region fun K kk hK => ?_
                simp only [go_sem]
                refine hK _ _ fun nx => ?_; clear hK K; try clear kk
                refine nmx ?_
                have ih' := ih _ _ hh nx
                refine cut_id ?_
                first | exact ih' _ | (simp only [api_Attr.pv_eq, api_Node.pv_eq, codec_reader.pv_eq, diptychref2_Reader.pv_eq, pvL, List.map_cons, List.map_nil, List.map_append, rune1] at ih' ⊢; exact ih' _) | (simp only [api_Attr.pv_eq, api_Node.pv_eq, codec_reader.pv_eq, diptychref2_Reader.pv_eq, pvL, List.map_cons, List.map_nil, List.map_append, rune1, h11, h12, h17] at ih' ⊢; exact ih' _)
            · intro i s h; exact h.elim
            · rintro s ⟨res_10, rfl, hb⟩
              try dsimp only at hh
              refine nmx ?_
              exact fragR ⟨_, (Option.some.inj hh), hb⟩
          · rw [if_neg h12] at hh
            replace h12 := Bool.eq_false_iff.mpr h12
            refine awp_false (by first | exact congrArg PV.bool h12 | rfl) ?_
            refine awp_exit ?_; refine nmx ?_
            refine fragN ?_
            refine cut_id ?_
            refine ⟨(Option.some.inj hh), ?_⟩
            first | exact ⟨_, _, _, _, _, rfl⟩ | (simp only [api_Attr.pv_eq, api_Node.pv_eq, codec_reader.pv_eq, diptychref2_Reader.pv_eq, pvL, List.map_cons, List.map_nil, List.map_append, rune1]; exact ⟨_, _, _, _, _, rfl⟩) | (simp only [api_Attr.pv_eq, api_Node.pv_eq, codec_reader.pv_eq, diptychref2_Reader.pv_eq, pvL, List.map_cons, List.map_nil, List.map_append, rune1, h11, h12]; exact ⟨_, _, _, _, _, rfl⟩)
        · rw [if_neg h11] at hh
          replace h11 := Bool.eq_false_iff.mpr h11
          refine awp_first fun K kk hK => ?_
          simp only [go_sem, h11, of_decide_eq_false h11, h11, of_decide_eq_false h11]
          (repeat refine sd ?_)
          refine hK _ _ fun nx => ?_; clear hK K; try clear kk
          refine awp_false rfl ?_
          refine awp_exit ?_; refine nmx ?_
          refine fragN ?_
          refine cut_id ?_
          refine ⟨(Option.some.inj hh), ?_⟩
          first | exact ⟨_, _, _, _, _, rfl⟩ | (simp only [api_Attr.pv_eq, api_Node.pv_eq, codec_reader.pv_eq, diptychref2_Reader.pv_eq, pvL, List.map_cons, List.map_nil, List.map_append, rune1]; exact ⟨_, _, _, _, _, rfl⟩) | (simp only [api_Attr.pv_eq, api_Node.pv_eq, codec_reader.pv_eq, diptychref2_Reader.pv_eq, pvL, List.map_cons, List.map_nil, List.map_append, rune1, h11]; exact ⟨_, _, _, _, _, rfl⟩)
    exact key _ _ _ f0 _ _
  · rintro s ⟨t, hless, rfl, i_14, v_15, s_16, nx, g3, rfl⟩
    try dsimp only at hh
    refine nmy ?_
    first | (refine cut_less hless ?_; try refine cut_awp ?_) | refine frag_less hless ?_ | refine body_less hless ?_
    refine awp_first fun K kk hK => ?_
    simp only [go_sem]
    refine hK _ _ fun nx => ?_; clear hK K; try clear kk
    refine awp_first fun K kk hK => ?_
    simp only [go_sem]
    refine hK _ _ fun nx => ?_; clear hK K; try clear kk
    refine awp_ret ?_; refine nmx ?_
    obtain hR := Option.some.inj hh
    subst hR
    refine ret_pureB ?_ (by rfl) ?_
    · simp only [go_sem, rvsRes, rvRes, cellRes, tupOf, pur2, List.map_cons, List.map_append, List.head?_cons]
      all_goals exact wkw
    · (try simp only [go_sem]); (try simp only [List.length_append, List.map_append]); all_goals exact wkb
  · intro i s h; exact h.elim
  · rintro s ⟨res_13, rfl, hb⟩
    try dsimp only at hh
    obtain hR := Option.some.inj hh
    subst hR
    refine nmx ?_
    exact hb
theorem codec_reader_text_x_ok (reader_1 : codec_reader) (R : (api_Node × codec_reader)) (hh : codec_reader_text_x reader_1 = some R) : BC Tryd.prog 59 [.box 1000 0 0] [.var 71 [.str reader_1.left, .bool reader_1.bad]] (.agg [.str R.1.Kind, .str R.1.Text, .list 1 (R.1.Marks.map PV.str), .list 2 (R.1.Attrs.map api_Attr.pv), .list 5 (R.1.Kids.map api_Node.pv)]) [.var 71 [.str R.2.left, .bool R.2.bad]] := by
  rw [codec_reader_text_x] at hh
  refine start_codec_reader_text_x rfl rfl rfl ?_
  refine awp_first fun K kk hK => ?_
  simp only [go_sem]
  refine hK _ _ fun nx => ?_; clear hK K; try clear kk
  obtain ⟨⟨r_2, reader_3⟩, h1, hh⟩ := bind_ex hh
  dsimp only at hh
  refine awp_first fun K kk hK => ?_
  simp only [go_sem]
  refine step_callC [1000] (by decide) (codec_reader_quoted_x_ok _ _ h1) (by (try simp only [go_sem]) <;> exact wkb) (by rfl) ?_
  simp only [go_sem]
  refine hK _ _ fun nx => ?_; clear hK K; try clear kk
  refine awp_seq ?_
  obtain ⟨⟨r_4, reader_5⟩, h2, hh⟩ := bind_ex hh
  dsimp only at hh
  refine awp_first fun K kk hK => ?_
  simp only [go_sem]
  refine step_callC [1000] (by decide) (codec_reader_takes_x_ok _ _ _ h2) (by (try simp only [go_sem]) <;> exact wkb) (by rfl) ?_
  simp only [go_sem]
  refine hK _ _ fun nx => ?_; clear hK K; try clear kk
  by_cases h3 : (!r_4) = true
  · rw [if_pos h3] at hh
    refine awp_true (by first | exact congrArg PV.bool h3 | rfl) ?_
    refine awp_first fun K kk hK => ?_
    simp only [go_sem]
    refine hK _ _ fun nx => ?_; clear hK K; try clear kk
    refine awp_ret ?_; refine nmx ?_
    obtain hR := Option.some.inj hh
    subst hR
    refine ret_pureB ?_ (by rfl) ?_
    · simp only [go_sem, rvsRes, rvRes, cellRes, tupOf, pur2, List.map_cons, List.map_append, List.head?_cons, h3]
      all_goals exact wkw
    · (try simp only [go_sem, h3]); (try simp only [List.length_append, List.map_append]); all_goals exact wkb
  · rw [if_neg h3] at hh
    replace h3 := Bool.eq_false_iff.mpr h3
    refine awp_false (by first | exact congrArg PV.bool h3 | rfl) ?_
    refine awp_skip ?_; refine nmx ?_
    refine awp_seq ?_
    refine awp_first fun K kk hK => ?_
    simp only [go_sem]
    refine hK _ _ fun nx => ?_; clear hK K; try clear kk
    obtain ⟨e0, f0, hh⟩ := bind_ex hh
    refine awp_fragE (CutTo (fun s => ∃ v_20, ∃ r_21, (v_20, r_21) = e0 ∧ ∃ (v_19 : Bool) (nx : Nat) (g2 : Nat) (g3 : Nat) (g323 : Nat), s = ⟨[(0, .box 1000 0 0), (2, .box 2 g2 0), (3, .box 3 g3 0), (12, .bool v_19)], [(2, g2, .var 26 [.str ([] : Str), .str ([] : Str), .list 1 ([].map PV.str), .list 2 ([].map api_Attr.pv), .list 5 ([].map api_Node.pv)]), (3, g3, .var 26 [.str ([116, 101, 120, 116] : Str), .str r_2, .row 323 g323 v_20.length, .list 2 ([].map api_Attr.pv), .list 5 ([].map api_Node.pv)]), (323, g323, .row false 1 (v_20.map PV.str)), (1000, 0, .var 71 [.str r_21.left, .bool r_21.bad])], nx⟩))
      (fun i s => False)
      (fun s => False) ?_ ?_ ?_ ?_
    · refine awp_block ?_
      refine awp_loopJ fun I hI => ?_
      obtain ⟨k, f0⟩ := lim_some f0
      have key : ∀ (k : Nat) (sign_12 : Bool) (v_13 : (List Str)) (r_11 : codec_reader), codec_reader_text_x_l0 k sign_12 v_13 r_11 = some e0 → ∀ (nx : Nat) (g2 : Nat) (g3 : Nat) (g323 : Nat), I ⟨[(0, .box 1000 0 0), (2, .box 2 g2 0), (3, .box 3 g3 0), (4, .bool sign_12)], [(2, g2, .var 26 [.str ([] : Str), .str ([] : Str), .list 1 ([].map PV.str), .list 2 ([].map api_Attr.pv), .list 5 ([].map api_Node.pv)]), (3, g3, .var 26 [.str ([116, 101, 120, 116] : Str), .str r_2, .row 323 g323 v_13.length, .list 2 ([].map api_Attr.pv), .list 5 ([].map api_Node.pv)]), (323, g323, .row false 1 (v_13.map PV.str)), (1000, 0, .var 71 [.str r_11.left, .bool r_11.bad])], nx⟩ := by
        intro k
        induction k with
        | zero => intro sign_12 v_13 r_11 hh; rw [codec_reader_text_x_l0] at hh; cases hh
        | succ k ih =>
          intro sign_12 v_13 r_11 hh nx g2 g3 g323
          rw [codec_reader_text_x_l0] at hh
          refine hI _ ?_
          refine awp_seq ?_
          refine awp_first fun K kk hK => ?_
          simp only [go_sem]
          refine hK _ _ fun nx => ?_; clear hK K; try clear kk
          by_cases h7 : (sign_12) = true
          · rw [if_pos h7] at hh
            refine awp_true (by first | exact congrArg PV.bool h7 | rfl) ?_
            refine awp_skip ?_; refine nmx ?_
            refine awp_seq ?_
            refine awp_block ?_
            obtain ⟨⟨r_14, reader_15⟩, h8, hh⟩ := bind_ex hh
            dsimp only at hh
            obtain ⟨l_16, h9, hh⟩ := bind_ex hh
            obtain ⟨h9a, h9c⟩ := app_some h9
            have h9d := app_map (f := PV.str) h9c
            have h9e := app_len h9c
            try simp only [List.length_cons, List.length_nil, Nat.zero_add, Nat.reduceAdd] at h9a h9e
            try simp only [h9e] at h9a
            try simp only [List.map_cons, List.map_nil, List.nil_append, List.append_nil, List.cons_append, List.singleton_append, rune1, api_Attr.pv_eq, api_Node.pv_eq, codec_reader.pv_eq, diptychref2_Reader.pv_eq, pvL] at h9d
            refine awp_region fun K kk hK => ?_
            simp only [go_sem, h9a, h9d, h9e]
            (repeat refine sd ?_)
            refine step_callD [1000] (by decide) (by decide) (codec_reader_name_x_ok _ _ h8) (by (try simp only [go_sem, h9a, h9d, h9e, h3, h7]) <;> exact wkb) (by rfl) ?_
            simp only [go_sem, h9a, h9d, h9e]
            (repeat refine sd ?_)
            refine hK _ _ fun nx => ?_; clear hK K; try clear kk
            refine nmx ?_
            obtain ⟨⟨r_17, reader_18⟩, h10, hh⟩ := bind_ex hh
            dsimp only at hh
            refine awp_region fun K kk hK => ?_
            simp only [go_sem]
            refine step_callC [1000] (by decide) (codec_reader_takes_x_ok _ _ _ h10) (by (try simp only [go_sem, h3, h7]) <;> exact wkb) (by rfl) ?_
            simp only [go_sem]
            refine hK _ _ fun nx => ?_; clear hK K; try clear kk
            refine nmx ?_
            have ih' := ih _ _ _ hh nx
            refine cut_id ?_
            first | exact ih' _ _ _ | (simp only [api_Attr.pv_eq, api_Node.pv_eq, codec_reader.pv_eq, diptychref2_Reader.pv_eq, pvL, List.map_cons, List.map_nil, List.map_append, rune1, h9e] at ih' ⊢; exact ih' _ _ _) | (simp only [api_Attr.pv_eq, api_Node.pv_eq, codec_reader.pv_eq, diptychref2_Reader.pv_eq, pvL, List.map_cons, List.map_nil, List.map_append, rune1, h9e, h3, h7] at ih' ⊢; exact ih' _ _ _)
          · rw [if_neg h7] at hh
            replace h7 := Bool.eq_false_iff.mpr h7
            refine awp_false (by first | exact congrArg PV.bool h7 | rfl) ?_
            refine awp_exit ?_; refine nmx ?_
            refine fragN ?_
            refine cut_id ?_
            refine ⟨_, _, (Option.some.inj hh), ?_⟩
            first | exact ⟨_, _, _, _, _, rfl⟩ | (simp only [api_Attr.pv_eq, api_Node.pv_eq, codec_reader.pv_eq, diptychref2_Reader.pv_eq, pvL, List.map_cons, List.map_nil, List.map_append, rune1]; exact ⟨_, _, _, _, _, rfl⟩) | (simp only [api_Attr.pv_eq, api_Node.pv_eq, codec_reader.pv_eq, diptychref2_Reader.pv_eq, pvL, List.map_cons, List.map_nil, List.map_append, rune1, h3, h7]; exact ⟨_, _, _, _, _, rfl⟩)
      exact key _ _ _ _ f0 _ _ _ _
    · rintro s ⟨t, hless, v_20, r_21, rfl, v_19, nx, g2, g3, g323, rfl⟩
      try dsimp only at hh
      refine nmy ?_
      first | (refine cut_less hless ?_; try refine cut_awp ?_) | refine frag_less hless ?_ | refine body_less hless ?_
      obtain ⟨reader_22, h11, hh⟩ := bind_ex hh
      refine awp_first fun K kk hK => ?_
      simp only [go_sem]
      refine step_callC [1000] (by decide) (codec_reader_want_x_ok _ _ _ h11) (by (try simp only [go_sem, h3]) <;> exact wkb) (by rfl) ?_
      simp only [go_sem]
      refine hK _ _ fun nx => ?_; clear hK K; try clear kk
      refine awp_first fun K kk hK => ?_
      simp only [go_sem]
      refine hK _ _ fun nx => ?_; clear hK K; try clear kk
      refine awp_ret ?_; refine nmx ?_
      obtain hR := Option.some.inj hh
      subst hR
      refine ret_pureB ?_ (by rfl) ?_
      · simp only [go_sem, rvsRes, rvRes, cellRes, tupOf, pur2, List.map_cons, List.map_append, List.head?_cons, h3]
        all_goals exact wkw
      · (try simp only [go_sem, h3]); (try simp only [List.length_append, List.map_append]); all_goals exact wkb
    · intro i s h; exact h.elim
    · intro s h; exact h.elim
theorem codec_reader_node_x_grp : ∀ kr : Nat, (∀ (reader_1 : codec_reader) (R : (api_Node × codec_reader)), codec_reader_node_x_k kr reader_1 = some R → BC Tryd.prog 44 [.box 1000 0 0] [.var 71 [.str reader_1.left, .bool reader_1.bad]] (.agg [.str R.1.Kind, .str R.1.Text, .list 1 (R.1.Marks.map PV.str), .list 2 (R.1.Attrs.map api_Attr.pv), .list 5 (R.1.Kids.map api_Node.pv)]) [.var 71 [.str R.2.left, .bool R.2.bad]]) := by
  intro kr
  induction kr with
  | zero => exact (by intro reader_1 R hh; rw [codec_reader_node_x_k] at hh; cases hh)
  | succ kr ih =>
    have ih_codec_reader_node_x := ih
    clear ih
    intro reader_1 R hh
    rw [codec_reader_node_x_k] at hh
    refine start_codec_reader_node_x rfl rfl rfl ?_
    refine awp_first fun K kk hK => ?_
    simp only [go_sem]
    refine hK _ _ fun nx => ?_; clear hK K; try clear kk
    refine awp_scope ?_
    refine awp_seq ?_
    obtain ⟨haspre_2, h1, hh⟩ := bind_ex hh
    refine awp_first fun K kk hK => ?_
    simp only [go_sem]
    refine step_call2 (strings_HasPrefix_ok _ _ _ h1) (by (try simp only [go_sem]) <;> exact wkl) (by rfl) (by rfl) ?_
    simp only [go_sem]
    refine hK _ _ fun nx => ?_; clear hK K; try clear kk
    by_cases h2 : (haspre_2) = true
    · rw [if_pos h2] at hh
      refine awp_true (by first | exact congrArg PV.bool h2 | rfl) ?_
      obtain ⟨⟨r_3, reader_4⟩, h3, hh⟩ := bind_ex hh
      dsimp only at hh
      refine awp_first fun K kk hK => ?_
      simp only [go_sem]
      refine step_callC [1000] (by decide) (codec_reader_text_x_ok _ _ h3) (by (try simp only [go_sem, h2]) <;> exact wkb) (by rfl) ?_
      simp only [go_sem]
      refine hK _ _ fun nx => ?_; clear hK K; try clear kk
      refine awp_ret ?_; refine nmx ?_
      obtain hR := Option.some.inj hh
      subst hR
      refine ret_pureB ?_ (by rfl) ?_
      · simp only [go_sem, rvsRes, rvRes, cellRes, tupOf, pur2, List.map_cons, List.map_append, List.head?_cons, h2]
        all_goals exact wkw
      · (try simp only [go_sem, h2]); (try simp only [List.length_append, List.map_append]); all_goals exact wkb
    · rw [if_neg h2] at hh
      replace h2 := Bool.eq_false_iff.mpr h2
      refine awp_false (by first | exact congrArg PV.bool h2 | rfl) ?_
      refine awp_skip ?_; refine nmx ?_
      obtain ⟨⟨r_5, reader_6⟩, h4, hh⟩ := bind_ex hh
      dsimp only at hh
      refine awp_first fun K kk hK => ?_
      simp only [go_sem]
      refine step_callC [1000] (by decide) (codec_reader_name_x_ok _ _ h4) (by (try simp only [go_sem, h2]) <;> exact wkb) (by rfl) ?_
      simp only [go_sem]
      refine hK _ _ fun nx => ?_; clear hK K; try clear kk
      refine awp_seq ?_
      obtain ⟨e0, f0, hh⟩ := bind_ex hh
      refine awp_frag (fun s => ∃ v_32, ∃ r_33, (v_32, r_33) = e0 ∧ ∃ (nx : Nat) (g2 : Nat) (g3 : Nat) (g324 : Nat) (g325 : Nat), s = ⟨[(0, .box 1000 0 0), (2, .box 2 g2 0), (3, .box 3 g3 0)], [(2, g2, .var 26 [.str ([] : Str), .str ([] : Str), .list 1 ([].map PV.str), .list 2 ([].map api_Attr.pv), .list 5 ([].map api_Node.pv)]), (3, g3, .var 26 [.str r_5, .str ([] : Str), .list 1 ([].map PV.str), .row 324 g324 v_32.length, .row 325 g325 ([] : List api_Node).length]), (324, g324, .row false 2 (v_32.map api_Attr.pv)), (325, g325, .row false 5 (([] : List api_Node).map api_Node.pv)), (1000, 0, .var 71 [.str r_33.left, .bool r_33.bad])], nx⟩)
        (fun i s => False)
        (fun s => False) ?_ ?_ ?_ ?_
      · have hh := f0
        obtain ⟨⟨r_7, reader_8⟩, h5, hh⟩ := bind_ex hh
        dsimp only at hh
        refine awp_first fun K kk hK => ?_
        simp only [go_sem]
        refine step_callC [1000] (by decide) (codec_reader_takes_x_ok _ _ _ h5) (by (try simp only [go_sem, h2]) <;> exact wkb) (by rfl) ?_
        simp only [go_sem]
        refine hK _ _ fun nx => ?_; clear hK K; try clear kk
        by_cases h6 : (r_7) = true
        · rw [if_pos h6] at hh
          refine awp_true (by first | exact congrArg PV.bool h6 | rfl) ?_
          refine awp_seq ?_
          refine awp_first fun K kk hK => ?_
          simp only [go_sem]
          refine hK _ _ fun nx => ?_; clear hK K; try clear kk
          obtain ⟨e1, f1, hh⟩ := bind_ex hh
          refine awp_fragE (CutTo (fun s => ∃ v_29, ∃ r_30, (v_29, r_30) = e1 ∧ ∃ (v_28 : Bool) (nx : Nat) (g2 : Nat) (g3 : Nat) (g324 : Nat) (g325 : Nat), s = ⟨[(0, .box 1000 0 0), (2, .box 2 g2 0), (3, .box 3 g3 0), (25, .bool v_28)], [(2, g2, .var 26 [.str ([] : Str), .str ([] : Str), .list 1 ([].map PV.str), .list 2 ([].map api_Attr.pv), .list 5 ([].map api_Node.pv)]), (3, g3, .var 26 [.str r_5, .str ([] : Str), .list 1 ([].map PV.str), .row 324 g324 v_29.length, .row 325 g325 ([] : List api_Node).length]), (324, g324, .row false 2 (v_29.map api_Attr.pv)), (325, g325, .row false 5 (([] : List api_Node).map api_Node.pv)), (1000, 0, .var 71 [.str r_30.left, .bool r_30.bad])], nx⟩))
            (fun i s => False)
            (fun s => False) ?_ ?_ ?_ ?_
          · refine awp_block ?_
            refine awp_loopJ fun I hI => ?_
            obtain ⟨k, f1⟩ := lim_some f1
            have key : ∀ (k : Nat) (sign_18 : Bool) (v_19 : (List api_Attr)) (r_17 : codec_reader), codec_reader_node_x_l1 k sign_18 v_19 r_17 = some e1 → ∀ (nx : Nat) (g2 : Nat) (g3 : Nat) (g324 : Nat) (g325 : Nat), I ⟨[(0, .box 1000 0 0), (2, .box 2 g2 0), (3, .box 3 g3 0), (4, .bool sign_18)], [(2, g2, .var 26 [.str ([] : Str), .str ([] : Str), .list 1 ([].map PV.str), .list 2 ([].map api_Attr.pv), .list 5 ([].map api_Node.pv)]), (3, g3, .var 26 [.str r_5, .str ([] : Str), .list 1 ([].map PV.str), .row 324 g324 v_19.length, .row 325 g325 ([] : List api_Node).length]), (324, g324, .row false 2 (v_19.map api_Attr.pv)), (325, g325, .row false 5 (([] : List api_Node).map api_Node.pv)), (1000, 0, .var 71 [.str r_17.left, .bool r_17.bad])], nx⟩ := by
              intro k
              induction k with
              | zero => intro sign_18 v_19 r_17 hh; rw [codec_reader_node_x_l1] at hh; cases hh
              | succ k ih =>
                intro sign_18 v_19 r_17 hh nx g2 g3 g324 g325
                rw [codec_reader_node_x_l1] at hh
                refine hI _ ?_
                refine awp_seq ?_
                by_cases h13 : (sign_18) = true
                · rw [if_pos h13] at hh
                  refine awp_first fun K kk hK => ?_
                  simp only [go_sem, h13, h13]
                  (repeat refine sd ?_)
                  refine hK _ _ fun nx => ?_; clear hK K; try clear kk
                  by_cases h14 : (!r_17.bad) = true
                  · rw [if_pos h14] at hh
                    refine awp_true (by first | exact congrArg PV.bool h14 | rfl) ?_
                    refine awp_skip ?_; refine nmx ?_
                    refine awp_seq ?_
                    refine awp_block ?_
                    obtain ⟨⟨r_20, reader_21⟩, h15, hh⟩ := bind_ex hh
                    dsimp only at hh
                    refine awp_first fun K kk hK => ?_
                    simp only [go_sem]
                    refine step_callC [1000] (by decide) (codec_reader_name_x_ok _ _ h15) (by (try simp only [go_sem, h13, h14, h2, h6]) <;> exact wkb) (by rfl) ?_
                    simp only [go_sem]
                    refine hK _ _ fun nx => ?_; clear hK K; try clear kk
                    obtain ⟨reader_22, h16, hh⟩ := bind_ex hh
                    refine awp_first fun K kk hK => ?_
                    simp only [go_sem]
                    refine step_callC [1000] (by decide) (codec_reader_want_x_ok _ _ _ h16) (by (try simp only [go_sem, h13, h14, h2, h6]) <;> exact wkb) (by rfl) ?_
                    simp only [go_sem]
                    refine hK _ _ fun nx => ?_; clear hK K; try clear kk
                    obtain ⟨⟨r_23, reader_24⟩, h17, hh⟩ := bind_ex hh
                    dsimp only at hh
                    obtain ⟨l_25, h18, hh⟩ := bind_ex hh
                    obtain ⟨h18a, h18c⟩ := app_some h18
                    have h18d := app_map (f := api_Attr.pv) h18c
                    have h18e := app_len h18c
                    try simp only [List.length_cons, List.length_nil, Nat.zero_add, Nat.reduceAdd] at h18a h18e
                    try simp only [h18e] at h18a
                    try simp only [List.map_cons, List.map_nil, List.nil_append, List.append_nil, List.cons_append, List.singleton_append, rune1, api_Attr.pv_eq, api_Node.pv_eq, codec_reader.pv_eq, diptychref2_Reader.pv_eq, pvL] at h18d
                    refine awp_region fun K kk hK => ?_
                    simp only [go_sem, h18a, h18d, h18e]
                    (repeat refine sd ?_)
                    refine step_callD [1000] (by decide) (by decide) (codec_reader_quoted_x_ok _ _ h17) (by (try simp only [go_sem, h18a, h18d, h18e, h13, h14, h2, h6]) <;> exact wkb) (by rfl) ?_
                    simp only [go_sem, h18a, h18d, h18e]
                    (repeat refine sd ?_)
                    refine hK _ _ fun nx => ?_; clear hK K; try clear kk
                    refine nmx ?_
                    obtain ⟨⟨r_26, reader_27⟩, h19, hh⟩ := bind_ex hh
                    dsimp only at hh
                    refine awp_region fun K kk hK => ?_
                    simp only [go_sem]
                    refine step_callC [1000] (by decide) (codec_reader_takes_x_ok _ _ _ h19) (by (try simp only [go_sem, h13, h14, h2, h6]) <;> exact wkb) (by rfl) ?_
                    simp only [go_sem]
                    refine hK _ _ fun nx => ?_; clear hK K; try clear kk
                    refine nmx ?_
                    have ih' := ih _ _ _ hh nx
                    refine cut_id ?_
                    first | exact ih' _ _ _ _ | (simp only [api_Attr.pv_eq, api_Node.pv_eq, codec_reader.pv_eq, diptychref2_Reader.pv_eq, pvL, List.map_cons, List.map_nil, List.map_append, rune1, h18e] at ih' ⊢; exact ih' _ _ _ _) | (simp only [api_Attr.pv_eq, api_Node.pv_eq, codec_reader.pv_eq, diptychref2_Reader.pv_eq, pvL, List.map_cons, List.map_nil, List.map_append, rune1, h18e, h13, h14, h2, h6] at ih' ⊢; exact ih' _ _ _ _)
                  · rw [if_neg h14] at hh
                    replace h14 := Bool.eq_false_iff.mpr h14
                    refine awp_false (by first | exact congrArg PV.bool h14 | rfl) ?_
                    refine awp_exit ?_; refine nmx ?_
                    refine fragN ?_
                    refine cut_id ?_
                    refine ⟨_, _, (Option.some.inj hh), ?_⟩
                    first | exact ⟨_, _, _, _, _, _, rfl⟩ | (simp only [api_Attr.pv_eq, api_Node.pv_eq, codec_reader.pv_eq, diptychref2_Reader.pv_eq, pvL, List.map_cons, List.map_nil, List.map_append, rune1]; exact ⟨_, _, _, _, _, _, rfl⟩) | (simp only [api_Attr.pv_eq, api_Node.pv_eq, codec_reader.pv_eq, diptychref2_Reader.pv_eq, pvL, List.map_cons, List.map_nil, List.map_append, rune1, h13, h14, h2, h6]; exact ⟨_, _, _, _, _, _, rfl⟩)
                · rw [if_neg h13] at hh
                  replace h13 := Bool.eq_false_iff.mpr h13
                  refine awp_first fun K kk hK => ?_
                  simp only [go_sem, h13, h13]
                  (repeat refine sd ?_)
                  refine hK _ _ fun nx => ?_; clear hK K; try clear kk
                  refine awp_false rfl ?_
                  refine awp_exit ?_; refine nmx ?_
                  refine fragN ?_
                  refine cut_id ?_
                  refine ⟨_, _, (Option.some.inj hh), ?_⟩
                  first | exact ⟨_, _, _, _, _, _, rfl⟩ | (simp only [api_Attr.pv_eq, api_Node.pv_eq, codec_reader.pv_eq, diptychref2_Reader.pv_eq, pvL, List.map_cons, List.map_nil, List.map_append, rune1]; exact ⟨_, _, _, _, _, _, rfl⟩) | (simp only [api_Attr.pv_eq, api_Node.pv_eq, codec_reader.pv_eq, diptychref2_Reader.pv_eq, pvL, List.map_cons, List.map_nil, List.map_append, rune1, h13, h2, h6]; exact ⟨_, _, _, _, _, _, rfl⟩)
            exact key _ _ _ _ f1 _ _ _ _ _
          · rintro s ⟨t, hless, v_29, r_30, rfl, v_28, nx, g2, g3, g324, g325, rfl⟩
            try dsimp only at hh
            refine nmy ?_
            first | (refine cut_less hless ?_; try refine cut_awp ?_) | refine frag_less hless ?_ | refine body_less hless ?_
            obtain ⟨reader_31, h20, hh⟩ := bind_ex hh
            refine awp_region fun K kk hK => ?_
            simp only [go_sem]
            refine step_callC [1000] (by decide) (codec_reader_want_x_ok _ _ _ h20) (by (try simp only [go_sem, h2, h6]) <;> exact wkb) (by rfl) ?_
            simp only [go_sem]
            refine hK _ _ fun nx => ?_; clear hK K; try clear kk
            refine nmx ?_
            refine fragN ?_
            refine cut_id ?_
            refine ⟨_, _, (Option.some.inj hh), ?_⟩
            first | exact ⟨_, _, _, _, _, rfl⟩ | (simp only [api_Attr.pv_eq, api_Node.pv_eq, codec_reader.pv_eq, diptychref2_Reader.pv_eq, pvL, List.map_cons, List.map_nil, List.map_append, rune1]; exact ⟨_, _, _, _, _, rfl⟩) | (simp only [api_Attr.pv_eq, api_Node.pv_eq, codec_reader.pv_eq, diptychref2_Reader.pv_eq, pvL, List.map_cons, List.map_nil, List.map_append, rune1, h2, h6]; exact ⟨_, _, _, _, _, rfl⟩)
          · intro i s h; exact h.elim
          · intro s h; exact h.elim
        · rw [if_neg h6] at hh
          replace h6 := Bool.eq_false_iff.mpr h6
          refine awp_false (by first | exact congrArg PV.bool h6 | rfl) ?_
          refine awp_skip ?_; refine nmx ?_
          refine fragN ?_
          refine cut_to (less_cut _ [0, 2, 3] [2, 3, 324, 325, 1000]) ?_
          refine ⟨_, _, (Option.some.inj hh), ?_⟩
          first | exact ⟨_, _, _, _, _, rfl⟩ | (simp only [api_Attr.pv_eq, api_Node.pv_eq, codec_reader.pv_eq, diptychref2_Reader.pv_eq, pvL, List.map_cons, List.map_nil, List.map_append, rune1]; exact ⟨_, _, _, _, _, rfl⟩) | (simp only [api_Attr.pv_eq, api_Node.pv_eq, codec_reader.pv_eq, diptychref2_Reader.pv_eq, pvL, List.map_cons, List.map_nil, List.map_append, rune1, h2, h6]; exact ⟨_, _, _, _, _, rfl⟩)
      · rintro s ⟨v_32, r_33, rfl, nx, g2, g3, g324, g325, rfl⟩
        try dsimp only at hh
        obtain ⟨reader_34, h21, hh⟩ := bind_ex hh
        refine awp_first fun K kk hK => ?_
        simp only [go_sem]
        refine step_callC [1000] (by decide) (codec_reader_want_x_ok _ _ _ h21) (by (try simp only [go_sem, h2]) <;> exact wkb) (by rfl) ?_
        simp only [go_sem]
        refine hK _ _ fun nx => ?_; clear hK K; try clear kk
        refine awp_seq ?_
        refine awp_label ?_; refine nmx ?_
        refine awp_seq ?_
        obtain ⟨e2, f2, hh⟩ := bind_ex hh
        refine awp_frag (fun s => ∃ v_44, ∃ r_45, (v_44, r_45) = e2 ∧ ∃ (v_43 : Bool) (nx : Nat) (g2 : Nat) (g3 : Nat) (g324 : Nat) (g325 : Nat), s = ⟨[(0, .box 1000 0 0), (2, .box 2 g2 0), (3, .box 3 g3 0), (63, .bool v_43)], [(2, g2, .var 26 [.str ([] : Str), .str ([] : Str), .list 1 ([].map PV.str), .list 2 ([].map api_Attr.pv), .list 5 ([].map api_Node.pv)]), (3, g3, .var 26 [.str r_5, .str ([] : Str), .list 1 ([].map PV.str), .row 324 g324 v_32.length, .row 325 g325 v_44.length]), (324, g324, .row false 2 (v_32.map api_Attr.pv)), (325, g325, .row false 5 (v_44.map api_Node.pv)), (1000, 0, .var 71 [.str r_45.left, .bool r_45.bad])], nx⟩)
          (fun i s => False)
          (fun s => False) ?_ ?_ ?_ ?_
        · refine awp_block ?_
          refine awp_loopJ fun I hI => ?_
          obtain ⟨k, f2⟩ := lim_some f2
          have key : ∀ (k : Nat) (v_39 : (List api_Node)) (r_38 : codec_reader), codec_reader_node_x_l2 (codec_reader_node_x_k kr) k v_39 r_38 = some e2 → ∀ (nx : Nat) (g2 : Nat) (g3 : Nat) (g324 : Nat) (g325 : Nat), I ⟨[(0, .box 1000 0 0), (2, .box 2 g2 0), (3, .box 3 g3 0)], [(2, g2, .var 26 [.str ([] : Str), .str ([] : Str), .list 1 ([].map PV.str), .list 2 ([].map api_Attr.pv), .list 5 ([].map api_Node.pv)]), (3, g3, .var 26 [.str r_5, .str ([] : Str), .list 1 ([].map PV.str), .row 324 g324 v_32.length, .row 325 g325 v_39.length]), (324, g324, .row false 2 (v_32.map api_Attr.pv)), (325, g325, .row false 5 (v_39.map api_Node.pv)), (1000, 0, .var 71 [.str r_38.left, .bool r_38.bad])], nx⟩ := by
            intro k
            induction k with
            | zero => intro v_39 r_38 hh; rw [codec_reader_node_x_l2] at hh; cases hh
            | succ k ih =>
              intro v_39 r_38 hh nx g2 g3 g324 g325
              rw [codec_reader_node_x_l2] at hh
              refine hI _ ?_
              refine awp_block ?_
              refine awp_seq ?_
              by_cases h28 : (r_38.bad) = true
              · rw [if_pos h28] at hh
                refine awp_first fun K kk hK => ?_
                simp only [go_sem, h28, h28]
                (repeat refine sd ?_)
                refine hK _ _ fun nx => ?_; clear hK K; try clear kk
                refine awp_true rfl ?_
                refine awp_exit ?_; refine nmx ?_
                refine fragN ?_
                refine cut_id ?_
                refine ⟨_, _, (Option.some.inj hh), ?_⟩
                first | exact ⟨_, _, _, _, _, _, rfl⟩ | (simp only [api_Attr.pv_eq, api_Node.pv_eq, codec_reader.pv_eq, diptychref2_Reader.pv_eq, pvL, List.map_cons, List.map_nil, List.map_append, rune1]; exact ⟨_, _, _, _, _, _, rfl⟩) | (simp only [api_Attr.pv_eq, api_Node.pv_eq, codec_reader.pv_eq, diptychref2_Reader.pv_eq, pvL, List.map_cons, List.map_nil, List.map_append, rune1, h2, h28]; exact ⟨_, _, _, _, _, _, rfl⟩)
              · rw [if_neg h28] at hh
                replace h28 := Bool.eq_false_iff.mpr h28
                by_cases h29 : (r_38.left == ([] : Str)) = true
                · rw [if_pos h29] at hh
                  refine awp_first fun K kk hK => ?_
                  simp only [go_sem, h28, h28, h29, h29]
                  (repeat refine sd ?_)
                  refine hK _ _ fun nx => ?_; clear hK K; try clear kk
                  refine awp_true rfl ?_
                  refine awp_exit ?_; refine nmx ?_
                  refine fragN ?_
                  refine cut_id ?_
                  refine ⟨_, _, (Option.some.inj hh), ?_⟩
                  first | exact ⟨_, _, _, _, _, _, rfl⟩ | (simp only [api_Attr.pv_eq, api_Node.pv_eq, codec_reader.pv_eq, diptychref2_Reader.pv_eq, pvL, List.map_cons, List.map_nil, List.map_append, rune1]; exact ⟨_, _, _, _, _, _, rfl⟩) | (simp only [api_Attr.pv_eq, api_Node.pv_eq, codec_reader.pv_eq, diptychref2_Reader.pv_eq, pvL, List.map_cons, List.map_nil, List.map_append, rune1, h2, h28, h29]; exact ⟨_, _, _, _, _, _, rfl⟩)
                · rw [if_neg h29] at hh
                  replace h29 := Bool.eq_false_iff.mpr h29
                  obtain ⟨h30, hh⟩ := chk_some hh
                  refine awp_first fun K kk hK => ?_
                  simp only [go_sem, h28, h28, h29, h30.1, h30.2, h29]
                  (repeat refine sd ?_)
                  refine hK _ _ fun nx => ?_; clear hK K; try clear kk
                  by_cases h31 : (((r_38.left.getD (0 : Int).toNat 0).toNat : Int) == (93 : Int)) = true
                  · rw [if_pos h31] at hh
                    try simp only [Int.reduceToNat] at h31
                    refine awp_true (by first | exact congrArg PV.bool h31 | rfl) ?_
                    refine awp_exit ?_; refine nmx ?_
                    refine fragN ?_
                    refine cut_id ?_
                    refine ⟨_, _, (Option.some.inj hh), ?_⟩
                    first | exact ⟨_, _, _, _, _, _, rfl⟩ | (simp only [api_Attr.pv_eq, api_Node.pv_eq, codec_reader.pv_eq, diptychref2_Reader.pv_eq, pvL, List.map_cons, List.map_nil, List.map_append, rune1]; exact ⟨_, _, _, _, _, _, rfl⟩) | (simp only [api_Attr.pv_eq, api_Node.pv_eq, codec_reader.pv_eq, diptychref2_Reader.pv_eq, pvL, List.map_cons, List.map_nil, List.map_append, rune1, h2, h28, h29, h31]; exact ⟨_, _, _, _, _, _, rfl⟩)
                  · rw [if_neg h31] at hh
                    replace h31 := Bool.eq_false_iff.mpr h31
                    try simp only [Int.reduceToNat] at h31
                    refine awp_false (by first | exact congrArg PV.bool h31 | rfl) ?_
                    refine awp_skip ?_; refine nmx ?_
                    obtain ⟨⟨r_40, reader_41⟩, h32, hh⟩ := bind_ex hh
                    dsimp only at hh
                    obtain ⟨l_42, h33, hh⟩ := bind_ex hh
                    obtain ⟨h33a, h33c⟩ := app_some h33
                    have h33d := app_map (f := api_Node.pv) h33c
                    have h33e := app_len h33c
                    try simp only [List.length_cons, List.length_nil, Nat.zero_add, Nat.reduceAdd] at h33a h33e
                    try simp only [h33e] at h33a
                    try simp only [List.map_cons, List.map_nil, List.nil_append, List.append_nil, List.cons_append, List.singleton_append, rune1, api_Attr.pv_eq, api_Node.pv_eq, codec_reader.pv_eq, diptychref2_Reader.pv_eq, pvL] at h33d
                    refine awp_region fun K kk hK => ?_
                    simp only [go_sem, h33a, h33d, h33e]
                    (repeat refine sd ?_)
                    refine step_callD [1000] (by decide) (by decide) (ih_codec_reader_node_x _ _ h32) (by (try simp only [go_sem, h33a, h33d, h33e, h2, h28, h29, h31]) <;> exact wkb) (by rfl) ?_
                    simp only [go_sem, h33a, h33d, h33e]
                    (repeat refine sd ?_)
                    refine hK _ _ fun nx => ?_; clear hK K; try clear kk
                    refine nmx ?_
                    have ih' := ih _ _ hh nx
                    refine cut_id ?_
                    first | exact ih' _ _ _ _ | (simp only [api_Attr.pv_eq, api_Node.pv_eq, codec_reader.pv_eq, diptychref2_Reader.pv_eq, pvL, List.map_cons, List.map_nil, List.map_append, rune1, h33e] at ih' ⊢; exact ih' _ _ _ _) | (simp only [api_Attr.pv_eq, api_Node.pv_eq, codec_reader.pv_eq, diptychref2_Reader.pv_eq, pvL, List.map_cons, List.map_nil, List.map_append, rune1, h33e, h2, h28, h29, h31] at ih' ⊢; exact ih' _ _ _ _)
          exact key _ _ _ f2 _ _ _ _ _
        · rintro s ⟨v_44, r_45, rfl, v_43, nx, g2, g3, g324, g325, rfl⟩
          try dsimp only at hh
          obtain ⟨reader_46, h34, hh⟩ := bind_ex hh
          refine awp_first fun K kk hK => ?_
          simp only [go_sem]
          refine step_callC [1000] (by decide) (codec_reader_want_x_ok _ _ _ h34) (by (try simp only [go_sem, h2]) <;> exact wkb) (by rfl) ?_
          simp only [go_sem]
          refine hK _ _ fun nx => ?_; clear hK K; try clear kk
          refine awp_first fun K kk hK => ?_
          simp only [go_sem]
          refine hK _ _ fun nx => ?_; clear hK K; try clear kk
          refine awp_ret ?_; refine nmx ?_
          obtain hR := Option.some.inj hh
          subst hR
          refine ret_pureB ?_ (by rfl) ?_
          · simp only [go_sem, rvsRes, rvRes, cellRes, tupOf, pur2, List.map_cons, List.map_append, List.head?_cons, h2]
            all_goals exact wkw
          · (try simp only [go_sem, h2]); (try simp only [List.length_append, List.map_append]); all_goals exact wkb
        · intro i s h; exact h.elim
        · intro s h; exact h.elim
      · intro i s h; exact h.elim
      · intro s h; exact h.elim
theorem codec_reader_node_x_ok (reader_1 : codec_reader) (R : (api_Node × codec_reader)) (hh : codec_reader_node_x reader_1 = some R) : BC Tryd.prog 44 [.box 1000 0 0] [.var 71 [.str reader_1.left, .bool reader_1.bad]] (.agg [.str R.1.Kind, .str R.1.Text, .list 1 (R.1.Marks.map PV.str), .list 2 (R.1.Attrs.map api_Attr.pv), .list 5 (R.1.Kids.map api_Node.pv)]) [.var 71 [.str R.2.left, .bool R.2.bad]] := by
  rw [codec_reader_node_x] at hh
  obtain ⟨kr, hh⟩ := lim_some hh
  exact (codec_reader_node_x_grp kr) _ _ hh
theorem codec_Parse_ok (s_1 : Str) (R : (api_Node × Int)) (hh : codec_Parse s_1 = some R) : PC Tryd.prog 22 [.str s_1] (.tup [.agg [.str R.1.Kind, .str R.1.Text, .list 1 (R.1.Marks.map PV.str), .list 2 (R.1.Attrs.map api_Attr.pv), .list 5 (R.1.Kids.map api_Node.pv)], .int .i64 R.2]) := by
  rw [codec_Parse] at hh
  refine start_codec_Parse rfl ?_
  refine awp_first fun K kk hK => ?_
  simp only [go_sem]
  refine hK _ _ fun nx => ?_; clear hK K; try clear kk
  refine awp_first fun K kk hK => ?_
  simp only [go_sem]
  refine hK _ _ fun nx => ?_; clear hK K; try clear kk
  obtain ⟨⟨r_2, reader_3⟩, h1, hh⟩ := bind_ex hh
  dsimp only at hh
  refine awp_first fun K kk hK => ?_
  simp only [go_sem]
  refine step_callC [10] (by decide) (codec_reader_node_x_ok _ _ h1) (by (try simp only [go_sem]) <;> exact wkb) (by rfl) ?_
  simp only [go_sem]
  refine hK _ _ fun nx => ?_; clear hK K; try clear kk
  refine awp_first fun K kk hK => ?_
  simp only [go_sem]
  refine hK _ _ fun nx => ?_; clear hK K; try clear kk
  obtain ⟨l_4, h2, hh⟩ := bind_ex hh
  refine awp_first fun K kk hK => ?_
  simp only [go_sem]
  refine step_callC [6, 343] (by decide) (codec_write_x_ok _ _ _ h2) (by (try simp only [go_sem]) <;> exact wkb) (by rfl) ?_
  simp only [go_sem]
  refine hK _ _ fun nx => ?_; clear hK K; try clear kk
  obtain ⟨check_5, h3, hh⟩ := bind_ex hh
  refine awp_first fun K kk hK => ?_
  simp only [go_sem]
  refine step_call2 (node_Check_ok _ _ h3) (by (try simp only [go_sem]) <;> exact wkl) (by rfl) (by rfl) ?_
  simp only [go_sem]
  refine hK _ _ fun nx => ?_; clear hK K; try clear kk
  refine awp_seq ?_
  by_cases h4 : (reader_3.bad) = true
  · rw [if_pos h4] at hh
    refine awp_first fun K kk hK => ?_
    simp only [go_sem, h4, h4]
    (repeat refine sd ?_)
    refine hK _ _ fun nx => ?_; clear hK K; try clear kk
    refine awp_true rfl ?_
    refine awp_first fun K kk hK => ?_
    simp only [go_sem]
    refine hK _ _ fun nx => ?_; clear hK K; try clear kk
    refine awp_ret ?_; refine nmx ?_
    obtain hR := Option.some.inj hh
    subst hR
    exact ret_p2
  · rw [if_neg h4] at hh
    replace h4 := Bool.eq_false_iff.mpr h4
    by_cases h5 : (!(reader_3.left == ([] : Str))) = true
    · rw [if_pos h5] at hh
      refine awp_first fun K kk hK => ?_
      simp only [go_sem, h4, h4, h5, h5]
      (repeat refine sd ?_)
      refine hK _ _ fun nx => ?_; clear hK K; try clear kk
      refine awp_true rfl ?_
      refine awp_first fun K kk hK => ?_
      simp only [go_sem]
      refine hK _ _ fun nx => ?_; clear hK K; try clear kk
      refine awp_ret ?_; refine nmx ?_
      obtain hR := Option.some.inj hh
      subst hR
      exact ret_p2
    · rw [if_neg h5] at hh
      replace h5 := Bool.eq_false_iff.mpr h5
      obtain ⟨⟨r_6, l_7⟩, h6, hh⟩ := bind_ex hh
      dsimp only at hh
      by_cases h7 : (!(r_6 == s_1)) = true
      · rw [if_pos h7] at hh
        refine awp_first fun K kk hK => ?_
        simp only [go_sem, h4, h4, h5, h5, h7, h7]
        (repeat refine sd ?_)
        refine step_callC [6, 343] (by decide) (strings_Builder_String_x_ok _ _ h6) (by (try simp only [go_sem, h4, h4, h5, h5, h7, h7, h4, h5]) <;> exact wkb) (by rfl) ?_
        simp only [go_sem, h4, h4, h5, h5, h7, h7]
        (repeat refine sd ?_)
        refine hK _ _ fun nx => ?_; clear hK K; try clear kk
        refine awp_true rfl ?_
        refine awp_first fun K kk hK => ?_
        simp only [go_sem]
        refine hK _ _ fun nx => ?_; clear hK K; try clear kk
        refine awp_ret ?_; refine nmx ?_
        obtain hR := Option.some.inj hh
        subst hR
        exact ret_p2
      · rw [if_neg h7] at hh
        replace h7 := Bool.eq_false_iff.mpr h7
        refine awp_first fun K kk hK => ?_
        simp only [go_sem, h4, h4, h5, h5, h7, h7]
        (repeat refine sd ?_)
        refine step_callC [6, 343] (by decide) (strings_Builder_String_x_ok _ _ h6) (by (try simp only [go_sem, h4, h4, h5, h5, h7, h7, h4, h5]) <;> exact wkb) (by rfl) ?_
        simp only [go_sem, h4, h4, h5, h5, h7, h7]
        (repeat refine sd ?_)
        refine hK _ _ fun nx => ?_; clear hK K; try clear kk
        by_cases h8 : (check_5 == (2 : Int)) = true
        · rw [if_pos h8] at hh
          refine awp_true (by first | exact congrArg PV.bool h8 | rfl) ?_
          refine awp_first fun K kk hK => ?_
          simp only [go_sem]
          refine hK _ _ fun nx => ?_; clear hK K; try clear kk
          refine awp_ret ?_; refine nmx ?_
          obtain hR := Option.some.inj hh
          subst hR
          exact ret_p2
        · rw [if_neg h8] at hh
          replace h8 := Bool.eq_false_iff.mpr h8
          refine awp_false (by first | exact congrArg PV.bool h8 | rfl) ?_
          refine awp_skip ?_; refine nmx ?_
          refine awp_seq ?_
          refine awp_first fun K kk hK => ?_
          simp only [go_sem]
          refine hK _ _ fun nx => ?_; clear hK K; try clear kk
          by_cases h9 : (check_5 != (0 : Int)) = true
          · rw [if_pos h9] at hh
            refine awp_true (by first | exact congrArg PV.bool h9 | rfl) ?_
            refine awp_first fun K kk hK => ?_
            simp only [go_sem]
            refine hK _ _ fun nx => ?_; clear hK K; try clear kk
            refine awp_ret ?_; refine nmx ?_
            obtain hR := Option.some.inj hh
            subst hR
            exact ret_p2
          · rw [if_neg h9] at hh
            replace h9 := Bool.eq_false_iff.mpr h9
            refine awp_false (by first | exact congrArg PV.bool h9 | rfl) ?_
            refine awp_skip ?_; refine nmx ?_
            refine awp_first fun K kk hK => ?_
            simp only [go_sem]
            refine hK _ _ fun nx => ?_; clear hK K; try clear kk
            refine awp_ret ?_; refine nmx ?_
            obtain hR := Option.some.inj hh
            subst hR
            exact ret_p2
theorem diptychref1_sameNames_ok (a_1 : (List Str)) (b_2 : (List Str)) (R : Bool) (hh : diptychref1_sameNames a_1 b_2 = some R) : PC Tryd.prog 47 [.list 1 (a_1.map PV.str), .list 1 (b_2.map PV.str)] (.bool R) := by
  rw [diptychref1_sameNames] at hh
  refine start_diptychref1_sameNames rfl ?_
  refine awp_first fun K kk hK => ?_
  simp only [go_sem]
  refine hK _ _ fun nx => ?_; clear hK K; try clear kk
  refine awp_seq ?_
  refine awp_first fun K kk hK => ?_
  simp only [go_sem]
  refine hK _ _ fun nx => ?_; clear hK K; try clear kk
  by_cases h1 : ((a_1.length : Int) != (b_2.length : Int)) = true
  · rw [if_pos h1] at hh
    refine awp_true (by first | exact congrArg PV.bool h1 | rfl) ?_
    refine awp_first fun K kk hK => ?_
    simp only [go_sem]
    refine hK _ _ fun nx => ?_; clear hK K; try clear kk
    refine awp_ret ?_; refine nmx ?_
    obtain hR := Option.some.inj hh
    subst hR
    exact ret_p2
  · rw [if_neg h1] at hh
    replace h1 := Bool.eq_false_iff.mpr h1
    refine awp_false (by first | exact congrArg PV.bool h1 | rfl) ?_
    refine awp_skip ?_; refine nmx ?_
    refine awp_seq ?_
    refine awp_first fun K kk hK => ?_
    simp only [go_sem]
    refine hK _ _ fun nx => ?_; clear hK K; try clear kk
    obtain ⟨e0, f0, hh⟩ := bind_ex hh
    obtain ⟨hlen0, f0⟩ := chk_some f0
    refine awp_fragE (CutTo (fun s => .inr () = e0 ∧ ∃ (i_11 : Int) (v_12 : Bool) (nx : Nat), s = ⟨[(0, .list 1 (a_1.map PV.str)), (1, .list 1 (b_2.map PV.str)), (5, .int .i64 i_11), (14, .bool v_12)], [], nx⟩))
      (fun i s => False)
      (fun s => ∃ res_10, .inl res_10 = e0 ∧ bodyR Tryd.prog [.tmp 4] (.bool res_10) [] .ret s) ?_ ?_ ?_ ?_
    · refine awp_block ?_
      refine awp_loopJ fun I hI => ?_
      have key : ∀ (suf pre : List Str) (i_5 : Int), a_1 = pre ++ suf → i_5 = (pre.length : Int) → diptychref1_sameNames_l0 b_2 suf i_5 = some e0 → ∀ (nx : Nat), I ⟨[(0, .list 1 (a_1.map PV.str)), (1, .list 1 (b_2.map PV.str)), (5, .int .i64 i_5)], [], nx⟩ := by
        intro suf
        induction suf with
        | nil =>
          intro pre i_5 hsplit hidx hh nx
          rw [diptychref1_sameNames_l0] at hh
          refine hI _ ?_
          have h10 := walk_nil hsplit hidx
          refine awp_seq ?_
          refine awp_first fun K kk hK => ?_
          simp only [go_sem]
          refine hK _ _ fun nx => ?_; clear hK K; try clear kk
          refine awp_false (by first | exact congrArg PV.bool h10 | rfl) ?_
          refine awp_exit ?_; refine nmx ?_
          refine fragN ?_
          refine cut_id ?_
          refine ⟨(Option.some.inj hh), ?_⟩
          first | exact ⟨_, _, _, rfl⟩ | (simp only [api_Attr.pv_eq, api_Node.pv_eq, codec_reader.pv_eq, diptychref2_Reader.pv_eq, pvL, List.map_cons, List.map_nil, List.map_append, rune1]; exact ⟨_, _, _, rfl⟩) | (simp only [api_Attr.pv_eq, api_Node.pv_eq, codec_reader.pv_eq, diptychref2_Reader.pv_eq, pvL, List.map_cons, List.map_nil, List.map_append, rune1, h1, h10]; exact ⟨_, _, _, rfl⟩)
        | cons y_8 suf ih =>
          intro pre i_5 hsplit hidx hh nx
          rw [diptychref1_sameNames_l0] at hh
          refine hI _ ?_
          obtain ⟨hl0a, hl0b, hl0d, hl0w, h10⟩ := walk_cons (f := PV.str) hsplit hidx hlen0
          refine awp_seq ?_
          refine awp_first fun K kk hK => ?_
          simp only [go_sem]
          refine hK _ _ fun nx => ?_; clear hK K; try clear kk
          refine awp_true (by first | exact congrArg PV.bool h10 | rfl) ?_
          refine awp_skip ?_; refine nmx ?_
          refine awp_seq ?_
          refine awp_block ?_
          obtain ⟨x_9, h11, hh⟩ := bind_ex hh
          obtain ⟨h11a, h11b, h11c⟩ := rd_some h11
          have h11d := rd_get (f := PV.str) h11c
          have h11f := rd_more (f := PV.str) h11c
          try simp only [Int.toNat_natCast, Int.reduceToNat] at h11d h11f
          refine awp_first fun K kk hK => ?_
          simp only [go_sem, h11a, h11b, h11d, h11f.1, h11f.2, hl0a, hl0b, hl0d, hl0w]
          (repeat refine sd ?_)
          refine hK _ _ fun nx => ?_; clear hK K; try clear kk
          by_cases h12 : (!(y_8 == x_9)) = true
          · rw [if_pos h12] at hh
            refine awp_true (by first | exact congrArg PV.bool h12 | rfl) ?_
            refine awp_first fun K kk hK => ?_
            simp only [go_sem, hl0a, hl0b, hl0d, hl0w]
            refine hK _ _ fun nx => ?_; clear hK K; try clear kk
            refine awp_ret ?_; refine nmx ?_
            refine fragR ⟨_, (Option.some.inj hh), ?_⟩
            exact ret_p2
          · rw [if_neg h12] at hh
            replace h12 := Bool.eq_false_iff.mpr h12
            refine awp_false (by first | exact congrArg PV.bool h12 | rfl) ?_
            refine awp_skip ?_; refine nmx ?_
            refine awp_region fun K kk hK => ?_
            simp only [go_sem, hl0a, hl0b, hl0d, hl0w]
            refine hK _ _ fun nx => ?_; clear hK K; try clear kk
            refine nmx ?_
            have ih' := ih (pre ++ [y_8]) (i_5 + 1) (by rw [hsplit]; simp) (by simp [hidx]) hh nx
            refine cut_id ?_
            first | exact ih' | (simp only [api_Attr.pv_eq, api_Node.pv_eq, codec_reader.pv_eq, diptychref2_Reader.pv_eq, pvL, List.map_cons, List.map_nil, List.map_append, rune1] at ih' ⊢; exact ih') | (simp only [api_Attr.pv_eq, api_Node.pv_eq, codec_reader.pv_eq, diptychref2_Reader.pv_eq, pvL, List.map_cons, List.map_nil, List.map_append, rune1, h1, h10, h12] at ih' ⊢; exact ih')
      exact key a_1 [] _ rfl rfl f0 _
    · rintro s ⟨t, hless, rfl, i_11, v_12, nx, rfl⟩
      try dsimp only at hh
      refine nmy ?_
      first | (refine cut_less hless ?_; try refine cut_awp ?_) | refine frag_less hless ?_ | refine body_less hless ?_
      refine awp_first fun K kk hK => ?_
      simp only [go_sem]
      refine hK _ _ fun nx => ?_; clear hK K; try clear kk
      refine awp_ret ?_; refine nmx ?_
      obtain hR := Option.some.inj hh
      subst hR
      exact ret_p2
    · intro i s h; exact h.elim
    · rintro s ⟨res_10, rfl, hb⟩
      try dsimp only at hh
      obtain hR := Option.some.inj hh
      subst hR
      refine nmx ?_
      exact hb
theorem diptychref1_runes_ok (s_1 : Str) (R : ((List Int) × Bool)) (hh : diptychref1_runes s_1 = some R) : PC Tryd.prog 76 [.str s_1] (.tup [.list 1 (R.1.map (PV.int .i32)), .bool R.2]) := by
  rw [diptychref1_runes] at hh
  refine start_diptychref1_runes rfl ?_
  refine awp_first fun K kk hK => ?_
  simp only [go_sem]
  refine hK _ _ fun nx => ?_; clear hK K; try clear kk
  refine awp_first fun K kk hK => ?_
  simp only [go_sem]
  refine hK _ _ fun nx => ?_; clear hK K; try clear kk
  refine awp_first fun K kk hK => ?_
  simp only [go_sem]
  refine hK _ _ fun nx => ?_; clear hK K; try clear kk
  refine awp_ret ?_; refine nmx ?_
  obtain hR := Option.some.inj hh
  subst hR
  exact ret_p2
theorem diptychref1_formed_ok (s_1 : Str) (R : Bool) (hh : diptychref1_formed s_1 = some R) : PC Tryd.prog 65 [.str s_1] (.bool R) := by
  rw [diptychref1_formed] at hh
  refine start_diptychref1_formed rfl ?_
  refine awp_first fun K kk hK => ?_
  simp only [go_sem]
  refine hK _ _ fun nx => ?_; clear hK K; try clear kk
  obtain ⟨⟨r_2, r_3⟩, h1, hh⟩ := bind_ex hh
  dsimp only at hh
  refine awp_first fun K kk hK => ?_
  simp only [go_sem]
  refine step_call2 (diptychref1_runes_ok _ _ h1) (by (try simp only [go_sem]) <;> exact wkl) (by rfl) (by rfl) ?_
  simp only [go_sem]
  refine hK _ _ fun nx => ?_; clear hK K; try clear kk
  refine awp_first fun K kk hK => ?_
  simp only [go_sem]
  refine hK _ _ fun nx => ?_; clear hK K; try clear kk
  refine awp_ret ?_; refine nmx ?_
  obtain hR := Option.some.inj hh
  subst hR
  exact ret_p2
theorem diptychref1_Name_ok (s_1 : Str) (R : Bool) (hh : diptychref1_Name s_1 = some R) : PC Tryd.prog 68 [.str s_1] (.bool R) := by
  rw [diptychref1_Name] at hh
  refine start_diptychref1_Name rfl ?_
  refine awp_first fun K kk hK => ?_
  simp only [go_sem]
  refine hK _ _ fun nx => ?_; clear hK K; try clear kk
  refine awp_seq ?_
  refine awp_first fun K kk hK => ?_
  simp only [go_sem]
  refine hK _ _ fun nx => ?_; clear hK K; try clear kk
  obtain ⟨e0, f0, hh⟩ := bind_ex hh
  refine awp_fragE (CutTo (fun s => .inr () = e0 ∧ ∃ (i_4 : Int) (v_5 : Bool) (nx : Nat), s = ⟨[(0, .str s_1), (3, .int .i64 i_4), (7, .bool v_5)], [], nx⟩))
    (fun i s => False)
    (fun s => ∃ res_3, .inl res_3 = e0 ∧ bodyR Tryd.prog [.tmp 2] (.bool res_3) [] .ret s) ?_ ?_ ?_ ?_
  · refine awp_block ?_
    refine awp_loopJ fun I hI => ?_
    obtain ⟨k, f0⟩ := lim_some f0
    have key : ∀ (k : Nat) (i_2 : Int), diptychref1_Name_l0 s_1 k i_2 = some e0 → ∀ (nx : Nat), I ⟨[(0, .str s_1), (3, .int .i64 i_2)], [], nx⟩ := by
      intro k
      induction k with
      | zero => intro i_2 hh; rw [diptychref1_Name_l0] at hh; cases hh
      | succ k ih =>
        intro i_2 hh nx
        rw [diptychref1_Name_l0] at hh
        refine hI _ ?_
        refine awp_seq ?_
        refine awp_first fun K kk hK => ?_
        simp only [go_sem]
        refine hK _ _ fun nx => ?_; clear hK K; try clear kk
        by_cases h6 : (decide (i_2 < (s_1.length : Int))) = true
        · rw [if_pos h6] at hh
          refine awp_true (by first | exact congrArg PV.bool h6 | rfl) ?_
          refine awp_skip ?_; refine nmx ?_
          refine awp_seq ?_
          refine awp_block ?_
          obtain ⟨h7, hh⟩ := chk_some hh
          by_cases h8 : (decide (((s_1.getD i_2.toNat 0).toNat : Int) < (97 : Int))) = true
          · rw [if_pos h8] at hh
            refine awp_first fun K kk hK => ?_
            simp only [go_sem, h7.1, h7.2, h8, of_decide_eq_true h8, h8, of_decide_eq_true h8]
            (repeat refine sd ?_)
            refine hK _ _ fun nx => ?_; clear hK K; try clear kk
            refine awp_true rfl ?_
            refine awp_first fun K kk hK => ?_
            simp only [go_sem]
            refine hK _ _ fun nx => ?_; clear hK K; try clear kk
            refine awp_ret ?_; refine nmx ?_
            refine fragR ⟨_, (Option.some.inj hh), ?_⟩
            exact ret_p2
          · rw [if_neg h8] at hh
            replace h8 := Bool.eq_false_iff.mpr h8
            obtain ⟨h9, hh⟩ := chk_some hh
            refine awp_first fun K kk hK => ?_
            simp only [go_sem, h7.1, h7.2, h8, of_decide_eq_false h8, h9.1, h9.2, h8, of_decide_eq_false h8]
            (repeat refine sd ?_)
            refine hK _ _ fun nx => ?_; clear hK K; try clear kk
            by_cases h10 : (decide (((s_1.getD i_2.toNat 0).toNat : Int) > (122 : Int))) = true
            · rw [if_pos h10] at hh
              refine awp_true (by first | exact congrArg PV.bool h10 | rfl) ?_
              refine awp_first fun K kk hK => ?_
              simp only [go_sem]
              refine hK _ _ fun nx => ?_; clear hK K; try clear kk
              refine awp_ret ?_; refine nmx ?_
              refine fragR ⟨_, (Option.some.inj hh), ?_⟩
              exact ret_p2
            · rw [if_neg h10] at hh
              replace h10 := Bool.eq_false_iff.mpr h10
              refine awp_false (by first | exact congrArg PV.bool h10 | rfl) ?_
              refine awp_skip ?_; refine nmx ?_
              refine awp_region fun K kk hK => ?_
              simp only [go_sem]
              refine hK _ _ fun nx => ?_; clear hK K; try clear kk
              refine nmx ?_
              have ih' := ih _ hh nx
              refine cut_id ?_
              first | exact ih' | (simp only [api_Attr.pv_eq, api_Node.pv_eq, codec_reader.pv_eq, diptychref2_Reader.pv_eq, pvL, List.map_cons, List.map_nil, List.map_append, rune1] at ih' ⊢; exact ih') | (simp only [api_Attr.pv_eq, api_Node.pv_eq, codec_reader.pv_eq, diptychref2_Reader.pv_eq, pvL, List.map_cons, List.map_nil, List.map_append, rune1, h10, h6, h8] at ih' ⊢; exact ih')
        · rw [if_neg h6] at hh
          replace h6 := Bool.eq_false_iff.mpr h6
          refine awp_false (by first | exact congrArg PV.bool h6 | rfl) ?_
          refine awp_exit ?_; refine nmx ?_
          refine fragN ?_
          refine cut_id ?_
          refine ⟨(Option.some.inj hh), ?_⟩
          first | exact ⟨_, _, _, rfl⟩ | (simp only [api_Attr.pv_eq, api_Node.pv_eq, codec_reader.pv_eq, diptychref2_Reader.pv_eq, pvL, List.map_cons, List.map_nil, List.map_append, rune1]; exact ⟨_, _, _, rfl⟩) | (simp only [api_Attr.pv_eq, api_Node.pv_eq, codec_reader.pv_eq, diptychref2_Reader.pv_eq, pvL, List.map_cons, List.map_nil, List.map_append, rune1, h6]; exact ⟨_, _, _, rfl⟩)
    exact key _ _ f0 _
  · rintro s ⟨t, hless, rfl, i_4, v_5, nx, rfl⟩
    try dsimp only at hh
    refine nmy ?_
    first | (refine cut_less hless ?_; try refine cut_awp ?_) | refine frag_less hless ?_ | refine body_less hless ?_
    by_cases h11 : (decide ((s_1.length : Int) ≥ (1 : Int))) = true
    · rw [if_pos h11] at hh
      by_cases h12 : (decide ((s_1.length : Int) ≤ (8 : Int))) = true
      · rw [if_pos h12] at hh
        refine awp_first fun K kk hK => ?_
        simp only [go_sem, h11, of_decide_eq_true h11, h11, of_decide_eq_true h11, h12, of_decide_eq_true h12, h12, of_decide_eq_true h12]
        (repeat refine sd ?_)
        refine hK _ _ fun nx => ?_; clear hK K; try clear kk
        refine awp_ret ?_; refine nmx ?_
        obtain hR := Option.some.inj hh
        subst hR
        exact ret_p2
      · rw [if_neg h12] at hh
        replace h12 := Bool.eq_false_iff.mpr h12
        refine awp_first fun K kk hK => ?_
        simp only [go_sem, h11, of_decide_eq_true h11, h11, of_decide_eq_true h11, h12, of_decide_eq_false h12, h12, of_decide_eq_false h12]
        (repeat refine sd ?_)
        refine hK _ _ fun nx => ?_; clear hK K; try clear kk
        refine awp_ret ?_; refine nmx ?_
        obtain hR := Option.some.inj hh
        subst hR
        exact ret_p2
    · rw [if_neg h11] at hh
      replace h11 := Bool.eq_false_iff.mpr h11
      refine awp_first fun K kk hK => ?_
      simp only [go_sem, h11, of_decide_eq_false h11, h11, of_decide_eq_false h11]
      (repeat refine sd ?_)
      refine hK _ _ fun nx => ?_; clear hK K; try clear kk
      refine awp_ret ?_; refine nmx ?_
      obtain hR := Option.some.inj hh
      subst hR
      exact ret_p2
  · intro i s h; exact h.elim
  · rintro s ⟨res_3, rfl, hb⟩
    try dsimp only at hh
    obtain hR := Option.some.inj hh
    subst hR
    refine nmx ?_
    exact hb
theorem diptychref1_rise_ok (l_1 : (List Str)) (R : Bool) (hh : diptychref1_rise l_1 = some R) : PC Tryd.prog 66 [.list 1 (l_1.map PV.str)] (.bool R) := by
  rw [diptychref1_rise] at hh
  refine start_diptychref1_rise rfl ?_
  refine awp_first fun K kk hK => ?_
  simp only [go_sem]
  refine hK _ _ fun nx => ?_; clear hK K; try clear kk
  refine awp_seq ?_
  refine awp_first fun K kk hK => ?_
  simp only [go_sem]
  refine hK _ _ fun nx => ?_; clear hK K; try clear kk
  obtain ⟨e0, f0, hh⟩ := bind_ex hh
  obtain ⟨hlen0, f0⟩ := chk_some f0
  refine awp_fragE (CutTo (fun s => .inr () = e0 ∧ ∃ (i_13 : Int) (v_14 : Bool) (nx : Nat), s = ⟨[(0, .list 1 (l_1.map PV.str)), (3, .int .i64 i_13), (7, .bool v_14)], [], nx⟩))
    (fun i s => False)
    (fun s => ∃ res_12, .inl res_12 = e0 ∧ bodyR Tryd.prog [.tmp 2] (.bool res_12) [] .ret s) ?_ ?_ ?_ ?_
  · refine awp_block ?_
    refine awp_loopJ fun I hI => ?_
    have key : ∀ (suf pre : List Str) (i_5 : Int), l_1 = pre ++ suf → i_5 = (pre.length : Int) → diptychref1_rise_l0 l_1 suf i_5 = some e0 → ∀ (nx : Nat), I ⟨[(0, .list 1 (l_1.map PV.str)), (3, .int .i64 i_5)], [], nx⟩ := by
      intro suf
      induction suf with
      | nil =>
        intro pre i_5 hsplit hidx hh nx
        rw [diptychref1_rise_l0] at hh
        refine hI _ ?_
        have h15 := walk_nil hsplit hidx
        refine awp_seq ?_
        refine awp_first fun K kk hK => ?_
        simp only [go_sem]
        refine hK _ _ fun nx => ?_; clear hK K; try clear kk
        refine awp_false (by first | exact congrArg PV.bool h15 | rfl) ?_
        refine awp_exit ?_; refine nmx ?_
        refine fragN ?_
        refine cut_id ?_
        refine ⟨(Option.some.inj hh), ?_⟩
        first | exact ⟨_, _, _, rfl⟩ | (simp only [api_Attr.pv_eq, api_Node.pv_eq, codec_reader.pv_eq, diptychref2_Reader.pv_eq, pvL, List.map_cons, List.map_nil, List.map_append, rune1]; exact ⟨_, _, _, rfl⟩) | (simp only [api_Attr.pv_eq, api_Node.pv_eq, codec_reader.pv_eq, diptychref2_Reader.pv_eq, pvL, List.map_cons, List.map_nil, List.map_append, rune1, h15]; exact ⟨_, _, _, rfl⟩)
      | cons y_9 suf ih =>
        intro pre i_5 hsplit hidx hh nx
        rw [diptychref1_rise_l0] at hh
        refine hI _ ?_
        obtain ⟨hl0a, hl0b, hl0d, hl0w, h15⟩ := walk_cons (f := PV.str) hsplit hidx hlen0
        refine awp_seq ?_
        refine awp_first fun K kk hK => ?_
        simp only [go_sem]
        refine hK _ _ fun nx => ?_; clear hK K; try clear kk
        refine awp_true (by first | exact congrArg PV.bool h15 | rfl) ?_
        refine awp_skip ?_; refine nmx ?_
        refine awp_seq ?_
        refine awp_block ?_
        obtain ⟨name_10, h16, hh⟩ := bind_ex hh
        by_cases h17 : (!name_10) = true
        · rw [if_pos h17] at hh
          refine awp_first fun K kk hK => ?_
          simp only [go_sem, h17, h17, hl0a, hl0b, hl0d, hl0w]
          (repeat refine sd ?_)
          refine step_call2 (diptychref1_Name_ok _ _ h16) (by (try simp only [go_sem, h17, h17, hl0a, hl0b, hl0d, hl0w]) <;> exact wkl) (by rfl) (by rfl) ?_
          simp only [go_sem, h17, h17, hl0a, hl0b, hl0d, hl0w]
          (repeat refine sd ?_)
          refine hK _ _ fun nx => ?_; clear hK K; try clear kk
          refine awp_true rfl ?_
          refine awp_first fun K kk hK => ?_
          simp only [go_sem, hl0a, hl0b, hl0d, hl0w]
          refine hK _ _ fun nx => ?_; clear hK K; try clear kk
          refine awp_ret ?_; refine nmx ?_
          refine fragR ⟨_, (Option.some.inj hh), ?_⟩
          exact ret_p2
        · rw [if_neg h17] at hh
          replace h17 := Bool.eq_false_iff.mpr h17
          by_cases h18 : (decide (i_5 > (0 : Int))) = true
          · rw [if_pos h18] at hh
            obtain ⟨x_11, h19, hh⟩ := bind_ex hh
            obtain ⟨h19a, h19b, h19c⟩ := rd_some h19
            have h19d := rd_get (f := PV.str) h19c
            have h19f := rd_more (f := PV.str) h19c
            try simp only [Int.toNat_natCast, Int.reduceToNat] at h19d h19f
            refine awp_first fun K kk hK => ?_
            simp only [go_sem, h17, h18, of_decide_eq_true h18, h19a, h19b, h19d, h19f.1, h19f.2, h18, of_decide_eq_true h18, h17, hl0a, hl0b, hl0d, hl0w]
            (repeat refine sd ?_)
            refine step_call2 (diptychref1_Name_ok _ _ h16) (by (try simp only [go_sem, h17, h18, of_decide_eq_true h18, h19a, h19b, h19d, h19f.1, h19f.2, h18, of_decide_eq_true h18, h17, hl0a, hl0b, hl0d, hl0w]) <;> exact wkl) (by rfl) (by rfl) ?_
            simp only [go_sem, h17, h18, of_decide_eq_true h18, h19a, h19b, h19d, h19f.1, h19f.2, h18, of_decide_eq_true h18, h17, hl0a, hl0b, hl0d, hl0w]
            (repeat refine sd ?_)
            refine hK _ _ fun nx => ?_; clear hK K; try clear kk
            by_cases h20 : ((Op.bytesLess y_9 x_11 || y_9 == x_11)) = true
            · rw [if_pos h20] at hh
              refine awp_true (by first | exact congrArg PV.bool h20 | rfl) ?_
              refine awp_first fun K kk hK => ?_
              simp only [go_sem, hl0a, hl0b, hl0d, hl0w]
              refine hK _ _ fun nx => ?_; clear hK K; try clear kk
              refine awp_ret ?_; refine nmx ?_
              refine fragR ⟨_, (Option.some.inj hh), ?_⟩
              exact ret_p2
            · rw [if_neg h20] at hh
              replace h20 := Bool.eq_false_iff.mpr h20
              refine awp_false (by first | exact congrArg PV.bool h20 | rfl) ?_
              refine awp_skip ?_; refine nmx ?_
              refine awp_region fun K kk hK => ?_
              simp only [go_sem, hl0a, hl0b, hl0d, hl0w]
              refine hK _ _ fun nx => ?_; clear hK K; try clear kk
              refine nmx ?_
              have ih' := ih (pre ++ [y_9]) (i_5 + 1) (by rw [hsplit]; simp) (by simp [hidx]) hh nx
              refine cut_id ?_
              first | exact ih' | (simp only [api_Attr.pv_eq, api_Node.pv_eq, codec_reader.pv_eq, diptychref2_Reader.pv_eq, pvL, List.map_cons, List.map_nil, List.map_append, rune1] at ih' ⊢; exact ih') | (simp only [api_Attr.pv_eq, api_Node.pv_eq, codec_reader.pv_eq, diptychref2_Reader.pv_eq, pvL, List.map_cons, List.map_nil, List.map_append, rune1, h15, h17, h18, h20] at ih' ⊢; exact ih')
          · rw [if_neg h18] at hh
            replace h18 := Bool.eq_false_iff.mpr h18
            refine awp_first fun K kk hK => ?_
            simp only [go_sem, h17, h18, of_decide_eq_false h18, h18, of_decide_eq_false h18, h17, hl0a, hl0b, hl0d, hl0w]
            (repeat refine sd ?_)
            refine step_call2 (diptychref1_Name_ok _ _ h16) (by (try simp only [go_sem, h17, h18, of_decide_eq_false h18, h18, of_decide_eq_false h18, h17, hl0a, hl0b, hl0d, hl0w]) <;> exact wkl) (by rfl) (by rfl) ?_
            simp only [go_sem, h17, h18, of_decide_eq_false h18, h18, of_decide_eq_false h18, h17, hl0a, hl0b, hl0d, hl0w]
            (repeat refine sd ?_)
            refine hK _ _ fun nx => ?_; clear hK K; try clear kk
            refine awp_false rfl ?_
            refine awp_skip ?_; refine nmx ?_
            refine awp_region fun K kk hK => ?_
            simp only [go_sem, hl0a, hl0b, hl0d, hl0w]
            refine hK _ _ fun nx => ?_; clear hK K; try clear kk
            refine nmx ?_
            have ih' := ih (pre ++ [y_9]) (i_5 + 1) (by rw [hsplit]; simp) (by simp [hidx]) hh nx
            refine cut_id ?_
            first | exact ih' | (simp only [api_Attr.pv_eq, api_Node.pv_eq, codec_reader.pv_eq, diptychref2_Reader.pv_eq, pvL, List.map_cons, List.map_nil, List.map_append, rune1] at ih' ⊢; exact ih') | (simp only [api_Attr.pv_eq, api_Node.pv_eq, codec_reader.pv_eq, diptychref2_Reader.pv_eq, pvL, List.map_cons, List.map_nil, List.map_append, rune1, h15, h17, h18] at ih' ⊢; exact ih')
    exact key l_1 [] _ rfl rfl f0 _
  · rintro s ⟨t, hless, rfl, i_13, v_14, nx, rfl⟩
    try dsimp only at hh
    refine nmy ?_
    first | (refine cut_less hless ?_; try refine cut_awp ?_) | refine frag_less hless ?_ | refine body_less hless ?_
    refine awp_first fun K kk hK => ?_
    simp only [go_sem]
    refine hK _ _ fun nx => ?_; clear hK K; try clear kk
    refine awp_ret ?_; refine nmx ?_
    obtain hR := Option.some.inj hh
    subst hR
    exact ret_p2
  · intro i s h; exact h.elim
  · rintro s ⟨res_12, rfl, hb⟩
    try dsimp only at hh
    obtain hR := Option.some.inj hh
    subst hR
    refine nmx ?_
    exact hb
theorem diptychref1_Value_ok (s_1 : Str) (R : Bool) (hh : diptychref1_Value s_1 = some R) : PC Tryd.prog 67 [.str s_1] (.bool R) := by
  rw [diptychref1_Value] at hh
  refine start_diptychref1_Value rfl ?_
  refine awp_first fun K kk hK => ?_
  simp only [go_sem]
  refine hK _ _ fun nx => ?_; clear hK K; try clear kk
  by_cases h1 : (decide ((s_1.length : Int) ≤ (40 : Int))) = true
  · rw [if_pos h1] at hh
    obtain ⟨formed_2, h2, hh⟩ := bind_ex hh
    refine awp_first fun K kk hK => ?_
    simp only [go_sem, h1, of_decide_eq_true h1, h1, of_decide_eq_true h1]
    (repeat refine sd ?_)
    refine step_call2 (diptychref1_formed_ok _ _ h2) (by (try simp only [go_sem, h1, of_decide_eq_true h1, h1, of_decide_eq_true h1]) <;> exact wkl) (by rfl) (by rfl) ?_
    simp only [go_sem, h1, of_decide_eq_true h1, h1, of_decide_eq_true h1]
    (repeat refine sd ?_)
    refine hK _ _ fun nx => ?_; clear hK K; try clear kk
    refine awp_ret ?_; refine nmx ?_
    obtain hR := Option.some.inj hh
    subst hR
    exact ret_p2
  · rw [if_neg h1] at hh
    replace h1 := Bool.eq_false_iff.mpr h1
    refine awp_first fun K kk hK => ?_
    simp only [go_sem, h1, of_decide_eq_false h1, h1, of_decide_eq_false h1]
    (repeat refine sd ?_)
    refine hK _ _ fun nx => ?_; clear hK K; try clear kk
    refine awp_ret ?_; refine nmx ?_
    obtain hR := Option.some.inj hh
    subst hR
    exact ret_p2
theorem diptychref1_Formed_grp : ∀ kr : Nat, (∀ (n_1 : api_Node) (R : Bool), diptychref1_Formed_k kr n_1 = some R → PC Tryd.prog 46 [.agg [.str n_1.Kind, .str n_1.Text, .list 1 (n_1.Marks.map PV.str), .list 2 (n_1.Attrs.map api_Attr.pv), .list 5 (n_1.Kids.map api_Node.pv)]] (.bool R)) := by
  intro kr
  induction kr with
  | zero => exact (by intro n_1 R hh; rw [diptychref1_Formed_k] at hh; cases hh)
  | succ kr ih =>
    have ih_diptychref1_Formed := ih
    clear ih
    intro n_1 R hh
    rw [diptychref1_Formed_k] at hh
    refine start_diptychref1_Formed rfl ?_
    refine awp_first fun K kk hK => ?_
    simp only [go_sem]
    refine hK _ _ fun nx => ?_; clear hK K; try clear kk
    refine awp_seq ?_
    refine awp_first fun K kk hK => ?_
    simp only [go_sem]
    refine hK _ _ fun nx => ?_; clear hK K; try clear kk
    by_cases h1 : (n_1.Kind == ([116, 101, 120, 116] : Str)) = true
    · rw [if_pos h1] at hh
      refine awp_true (by first | exact congrArg PV.bool h1 | rfl) ?_
      by_cases h2 : (!(n_1.Text == ([] : Str))) = true
      · rw [if_pos h2] at hh
        obtain ⟨formed_2, h3, hh⟩ := bind_ex hh
        by_cases h4 : (formed_2) = true
        · rw [if_pos h4] at hh
          obtain ⟨rise_3, h5, hh⟩ := bind_ex hh
          by_cases h6 : (rise_3) = true
          · rw [if_pos h6] at hh
            by_cases h7 : ((n_1.Attrs.length : Int) == (0 : Int)) = true
            · rw [if_pos h7] at hh
              refine awp_first fun K kk hK => ?_
              simp only [go_sem, h2, h2, h4, h4, h6, h6, h7, h7]
              (repeat refine sd ?_)
              refine step_call2 (diptychref1_formed_ok _ _ h3) (by (try simp only [go_sem, h2, h2, h4, h4, h6, h6, h7, h7]) <;> exact wkl) (by rfl) (by rfl) ?_
              simp only [go_sem, h2, h2, h4, h4, h6, h6, h7, h7]
              (repeat refine sd ?_)
              refine step_call2 (diptychref1_rise_ok _ _ h5) (by (try simp only [go_sem, h2, h2, h4, h4, h6, h6, h7, h7]) <;> exact wkl) (by rfl) (by rfl) ?_
              simp only [go_sem, h2, h2, h4, h4, h6, h6, h7, h7]
              (repeat refine sd ?_)
              refine hK _ _ fun nx => ?_; clear hK K; try clear kk
              refine awp_ret ?_; refine nmx ?_
              obtain hR := Option.some.inj hh
              subst hR
              exact ret_p2
            · rw [if_neg h7] at hh
              replace h7 := Bool.eq_false_iff.mpr h7
              refine awp_first fun K kk hK => ?_
              simp only [go_sem, h2, h2, h4, h4, h6, h6, h7, h7]
              (repeat refine sd ?_)
              refine step_call2 (diptychref1_formed_ok _ _ h3) (by (try simp only [go_sem, h2, h2, h4, h4, h6, h6, h7, h7]) <;> exact wkl) (by rfl) (by rfl) ?_
              simp only [go_sem, h2, h2, h4, h4, h6, h6, h7, h7]
              (repeat refine sd ?_)
              refine step_call2 (diptychref1_rise_ok _ _ h5) (by (try simp only [go_sem, h2, h2, h4, h4, h6, h6, h7, h7]) <;> exact wkl) (by rfl) (by rfl) ?_
              simp only [go_sem, h2, h2, h4, h4, h6, h6, h7, h7]
              (repeat refine sd ?_)
              refine hK _ _ fun nx => ?_; clear hK K; try clear kk
              refine awp_ret ?_; refine nmx ?_
              obtain hR := Option.some.inj hh
              subst hR
              exact ret_p2
          · rw [if_neg h6] at hh
            replace h6 := Bool.eq_false_iff.mpr h6
            refine awp_first fun K kk hK => ?_
            simp only [go_sem, h2, h2, h4, h4, h6, h6]
            (repeat refine sd ?_)
            refine step_call2 (diptychref1_formed_ok _ _ h3) (by (try simp only [go_sem, h2, h2, h4, h4, h6, h6]) <;> exact wkl) (by rfl) (by rfl) ?_
            simp only [go_sem, h2, h2, h4, h4, h6, h6]
            (repeat refine sd ?_)
            refine step_call2 (diptychref1_rise_ok _ _ h5) (by (try simp only [go_sem, h2, h2, h4, h4, h6, h6]) <;> exact wkl) (by rfl) (by rfl) ?_
            simp only [go_sem, h2, h2, h4, h4, h6, h6]
            (repeat refine sd ?_)
            refine hK _ _ fun nx => ?_; clear hK K; try clear kk
            refine awp_ret ?_; refine nmx ?_
            obtain hR := Option.some.inj hh
            subst hR
            exact ret_p2
        · rw [if_neg h4] at hh
          replace h4 := Bool.eq_false_iff.mpr h4
          refine awp_first fun K kk hK => ?_
          simp only [go_sem, h2, h2, h4, h4]
          (repeat refine sd ?_)
          refine step_call2 (diptychref1_formed_ok _ _ h3) (by (try simp only [go_sem, h2, h2, h4, h4]) <;> exact wkl) (by rfl) (by rfl) ?_
          simp only [go_sem, h2, h2, h4, h4]
          (repeat refine sd ?_)
          refine hK _ _ fun nx => ?_; clear hK K; try clear kk
          refine awp_ret ?_; refine nmx ?_
          obtain hR := Option.some.inj hh
          subst hR
          exact ret_p2
      · rw [if_neg h2] at hh
        replace h2 := Bool.eq_false_iff.mpr h2
        refine awp_first fun K kk hK => ?_
        simp only [go_sem, h2, h2]
        (repeat refine sd ?_)
        refine hK _ _ fun nx => ?_; clear hK K; try clear kk
        refine awp_ret ?_; refine nmx ?_
        obtain hR := Option.some.inj hh
        subst hR
        exact ret_p2
    · rw [if_neg h1] at hh
      replace h1 := Bool.eq_false_iff.mpr h1
      refine awp_false (by first | exact congrArg PV.bool h1 | rfl) ?_
      refine awp_skip ?_; refine nmx ?_
      refine awp_first fun K kk hK => ?_
      simp only [go_sem]
      refine hK _ _ fun nx => ?_; clear hK K; try clear kk
      refine awp_seq ?_
      refine awp_first fun K kk hK => ?_
      simp only [go_sem]
      refine hK _ _ fun nx => ?_; clear hK K; try clear kk
      obtain ⟨e0, f0, hh⟩ := bind_ex hh
      obtain ⟨hlen0, f0⟩ := chk_some f0
      refine awp_fragE (CutTo (fun s => ∃ names_18, .inr names_18 = e0 ∧ ∃ (i_16 : Int) (v_17 : Bool) (nx : Nat) (g1 : Nat) (g3 : Nat), s = ⟨[(1, .box 1 g1 0), (3, .row 3 g3 names_18.length), (4, .int .i64 i_16), (38, .bool v_17)], [(1, g1, .var 26 [.str n_1.Kind, .str n_1.Text, .list 1 (n_1.Marks.map PV.str), .list 2 (n_1.Attrs.map api_Attr.pv), .list 5 (n_1.Kids.map api_Node.pv)]), (3, g3, .row false 1 (names_18.map PV.str))], nx⟩))
        (fun i s => False)
        (fun s => ∃ res_15, .inl res_15 = e0 ∧ bodyR Tryd.prog [.tmp 2] (.bool res_15) [] .ret s) ?_ ?_ ?_ ?_
      · refine awp_block ?_
        refine awp_loopJ fun I hI => ?_
        have key : ∀ (suf pre : List api_Attr) (i_7 : Int) (names_8 : (List Str)), n_1.Attrs = pre ++ suf → i_7 = (pre.length : Int) → diptychref1_Formed_l0 suf i_7 names_8 = some e0 → ∀ (nx : Nat) (g1 : Nat) (g3 : Nat), I ⟨[(1, .box 1 g1 0), (3, .row 3 g3 names_8.length), (4, .int .i64 i_7)], [(1, g1, .var 26 [.str n_1.Kind, .str n_1.Text, .list 1 (n_1.Marks.map PV.str), .list 2 (n_1.Attrs.map api_Attr.pv), .list 5 (n_1.Kids.map api_Node.pv)]), (3, g3, .row false 1 (names_8.map PV.str))], nx⟩ := by
          intro suf
          induction suf with
          | nil =>
            intro pre i_7 names_8 hsplit hidx hh nx g1 g3
            rw [diptychref1_Formed_l0] at hh
            refine hI _ ?_
            have h18 := walk_nil hsplit hidx
            refine awp_seq ?_
            refine awp_first fun K kk hK => ?_
            simp only [go_sem]
            refine hK _ _ fun nx => ?_; clear hK K; try clear kk
            refine awp_false (by first | exact congrArg PV.bool h18 | rfl) ?_
            refine awp_exit ?_; refine nmx ?_
            refine fragN ?_
            refine cut_id ?_
            refine ⟨_, (Option.some.inj hh), ?_⟩
            first | exact ⟨_, _, _, _, _, rfl⟩ | (simp only [api_Attr.pv_eq, api_Node.pv_eq, codec_reader.pv_eq, diptychref2_Reader.pv_eq, pvL, List.map_cons, List.map_nil, List.map_append, rune1]; exact ⟨_, _, _, _, _, rfl⟩) | (simp only [api_Attr.pv_eq, api_Node.pv_eq, codec_reader.pv_eq, diptychref2_Reader.pv_eq, pvL, List.map_cons, List.map_nil, List.map_append, rune1, h1, h18]; exact ⟨_, _, _, _, _, rfl⟩)
          | cons y_12 suf ih =>
            intro pre i_7 names_8 hsplit hidx hh nx g1 g3
            rw [diptychref1_Formed_l0] at hh
            refine hI _ ?_
            obtain ⟨hl0a, hl0b, hl0d, hl0w, h18⟩ := walk_cons (f := api_Attr.pv) hsplit hidx hlen0
            refine awp_seq ?_
            refine awp_first fun K kk hK => ?_
            simp only [go_sem]
            refine hK _ _ fun nx => ?_; clear hK K; try clear kk
            refine awp_true (by first | exact congrArg PV.bool h18 | rfl) ?_
            refine awp_skip ?_; refine nmx ?_
            refine awp_seq ?_
            refine awp_block ?_
            obtain ⟨l_13, h19, hh⟩ := bind_ex hh
            obtain ⟨h19a, h19c⟩ := app_some h19
            have h19d := app_map (f := PV.str) h19c
            have h19e := app_len h19c
            try simp only [List.length_cons, List.length_nil, Nat.zero_add, Nat.reduceAdd] at h19a h19e
            try simp only [h19e] at h19a
            try simp only [List.map_cons, List.map_nil, List.nil_append, List.append_nil, List.cons_append, List.singleton_append, rune1, api_Attr.pv_eq, api_Node.pv_eq, codec_reader.pv_eq, diptychref2_Reader.pv_eq, pvL] at h19d
            refine awp_first fun K kk hK => ?_
            simp only [go_sem, h19a, h19d, h19e, hl0a, hl0b, hl0d, hl0w]
            (repeat refine sd ?_)
            refine hK _ _ fun nx => ?_; clear hK K; try clear kk
            obtain ⟨value_14, h20, hh⟩ := bind_ex hh
            refine awp_first fun K kk hK => ?_
            simp only [go_sem, hl0a, hl0b, hl0d, hl0w]
            refine step_call2 (diptychref1_Value_ok _ _ h20) (by (try simp only [go_sem, hl0a, hl0b, hl0d, hl0w]) <;> exact wkl) (by rfl) (by rfl) ?_
            simp only [go_sem, hl0a, hl0b, hl0d, hl0w]
            refine hK _ _ fun nx => ?_; clear hK K; try clear kk
            by_cases h21 : (!value_14) = true
            · rw [if_pos h21] at hh
              refine awp_true (by first | exact congrArg PV.bool h21 | rfl) ?_
              refine awp_first fun K kk hK => ?_
              simp only [go_sem, hl0a, hl0b, hl0d, hl0w]
              refine hK _ _ fun nx => ?_; clear hK K; try clear kk
              refine awp_ret ?_; refine nmx ?_
              refine fragR ⟨_, (Option.some.inj hh), ?_⟩
              exact ret_p2
            · rw [if_neg h21] at hh
              replace h21 := Bool.eq_false_iff.mpr h21
              refine awp_false (by first | exact congrArg PV.bool h21 | rfl) ?_
              refine awp_skip ?_; refine nmx ?_
              refine awp_region fun K kk hK => ?_
              simp only [go_sem, hl0a, hl0b, hl0d, hl0w]
              refine hK _ _ fun nx => ?_; clear hK K; try clear kk
              refine nmx ?_
              have ih' := ih (pre ++ [y_12]) (i_7 + 1) _ (by rw [hsplit]; simp) (by simp [hidx]) hh nx
              refine cut_id ?_
              first | exact ih' _ _ | (simp only [api_Attr.pv_eq, api_Node.pv_eq, codec_reader.pv_eq, diptychref2_Reader.pv_eq, pvL, List.map_cons, List.map_nil, List.map_append, rune1, h19e] at ih' ⊢; exact ih' _ _) | (simp only [api_Attr.pv_eq, api_Node.pv_eq, codec_reader.pv_eq, diptychref2_Reader.pv_eq, pvL, List.map_cons, List.map_nil, List.map_append, rune1, h19e, h1, h18, h21] at ih' ⊢; exact ih' _ _)
        exact key n_1.Attrs [] _ _ rfl rfl f0 _ _ _
      · rintro s ⟨t, hless, names_18, rfl, i_16, v_17, nx, g1, g3, rfl⟩
        try dsimp only at hh
        refine nmy ?_
        first | (refine cut_less hless ?_; try refine cut_awp ?_) | refine frag_less hless ?_ | refine body_less hless ?_
        refine awp_seq ?_
        obtain ⟨name_19, h22, hh⟩ := bind_ex hh
        by_cases h23 : (!name_19) = true
        · rw [if_pos h23] at hh
          refine awp_first fun K kk hK => ?_
          simp only [go_sem, h23, h23]
          (repeat refine sd ?_)
          refine step_call2 (diptychref1_Name_ok _ _ h22) (by (try simp only [go_sem, h23, h23]) <;> exact wkl) (by rfl) (by rfl) ?_
          simp only [go_sem, h23, h23]
          (repeat refine sd ?_)
          refine hK _ _ fun nx => ?_; clear hK K; try clear kk
          refine awp_true rfl ?_
          refine awp_first fun K kk hK => ?_
          simp only [go_sem]
          refine hK _ _ fun nx => ?_; clear hK K; try clear kk
          refine awp_ret ?_; refine nmx ?_
          obtain hR := Option.some.inj hh
          subst hR
          exact ret_p2
        · rw [if_neg h23] at hh
          replace h23 := Bool.eq_false_iff.mpr h23
          by_cases h24 : (!(n_1.Text == ([] : Str))) = true
          · rw [if_pos h24] at hh
            refine awp_first fun K kk hK => ?_
            simp only [go_sem, h23, h23, h24, h24]
            (repeat refine sd ?_)
            refine step_call2 (diptychref1_Name_ok _ _ h22) (by (try simp only [go_sem, h23, h23, h24, h24]) <;> exact wkl) (by rfl) (by rfl) ?_
            simp only [go_sem, h23, h23, h24, h24]
            (repeat refine sd ?_)
            refine hK _ _ fun nx => ?_; clear hK K; try clear kk
            refine awp_true rfl ?_
            refine awp_first fun K kk hK => ?_
            simp only [go_sem]
            refine hK _ _ fun nx => ?_; clear hK K; try clear kk
            refine awp_ret ?_; refine nmx ?_
            obtain hR := Option.some.inj hh
            subst hR
            exact ret_p2
          · rw [if_neg h24] at hh
            replace h24 := Bool.eq_false_iff.mpr h24
            by_cases h25 : (decide ((n_1.Marks.length : Int) > (0 : Int))) = true
            · rw [if_pos h25] at hh
              refine awp_first fun K kk hK => ?_
              simp only [go_sem, h23, h23, h24, h24, h25, of_decide_eq_true h25, h25, of_decide_eq_true h25]
              (repeat refine sd ?_)
              refine step_call2 (diptychref1_Name_ok _ _ h22) (by (try simp only [go_sem, h23, h23, h24, h24, h25, of_decide_eq_true h25, h25, of_decide_eq_true h25]) <;> exact wkl) (by rfl) (by rfl) ?_
              simp only [go_sem, h23, h23, h24, h24, h25, of_decide_eq_true h25, h25, of_decide_eq_true h25]
              (repeat refine sd ?_)
              refine hK _ _ fun nx => ?_; clear hK K; try clear kk
              refine awp_true rfl ?_
              refine awp_first fun K kk hK => ?_
              simp only [go_sem]
              refine hK _ _ fun nx => ?_; clear hK K; try clear kk
              refine awp_ret ?_; refine nmx ?_
              obtain hR := Option.some.inj hh
              subst hR
              exact ret_p2
            · rw [if_neg h25] at hh
              replace h25 := Bool.eq_false_iff.mpr h25
              obtain ⟨rise_20, h26, hh⟩ := bind_ex hh
              refine awp_first fun K kk hK => ?_
              simp only [go_sem, h23, h23, h24, h24, h25, of_decide_eq_false h25, h25, of_decide_eq_false h25]
              (repeat refine sd ?_)
              refine step_call2 (diptychref1_Name_ok _ _ h22) (by (try simp only [go_sem, h23, h23, h24, h24, h25, of_decide_eq_false h25, h25, of_decide_eq_false h25]) <;> exact wkl) (by rfl) (by rfl) ?_
              simp only [go_sem, h23, h23, h24, h24, h25, of_decide_eq_false h25, h25, of_decide_eq_false h25]
              (repeat refine sd ?_)
              refine step_call2 (diptychref1_rise_ok _ _ h26) (by (try simp only [go_sem, h23, h23, h24, h24, h25, of_decide_eq_false h25, h25, of_decide_eq_false h25]) <;> exact wkl) (by rfl) (by rfl) ?_
              simp only [go_sem, h23, h23, h24, h24, h25, of_decide_eq_false h25, h25, of_decide_eq_false h25]
              (repeat refine sd ?_)
              refine hK _ _ fun nx => ?_; clear hK K; try clear kk
              by_cases h27 : (!rise_20) = true
              · rw [if_pos h27] at hh
                refine awp_true (by first | exact congrArg PV.bool h27 | rfl) ?_
                refine awp_first fun K kk hK => ?_
                simp only [go_sem]
                refine hK _ _ fun nx => ?_; clear hK K; try clear kk
                refine awp_ret ?_; refine nmx ?_
                obtain hR := Option.some.inj hh
                subst hR
                exact ret_p2
              · rw [if_neg h27] at hh
                replace h27 := Bool.eq_false_iff.mpr h27
                refine awp_false (by first | exact congrArg PV.bool h27 | rfl) ?_
                refine awp_skip ?_; refine nmx ?_
                refine awp_seq ?_
                refine awp_first fun K kk hK => ?_
                simp only [go_sem]
                refine hK _ _ fun nx => ?_; clear hK K; try clear kk
                obtain ⟨e1, f1, hh⟩ := bind_ex hh
                obtain ⟨hlen1, f1⟩ := chk_some f1
                refine awp_fragE (CutTo (fun s => .inr () = e1 ∧ ∃ (i_35 : Int) (v_36 : Bool) (nx : Nat) (g1 : Nat), s = ⟨[(1, .box 1 g1 0), (5, .int .i64 i_35), (82, .bool v_36)], [(1, g1, .var 26 [.str n_1.Kind, .str n_1.Text, .list 1 (n_1.Marks.map PV.str), .list 2 (n_1.Attrs.map api_Attr.pv), .list 5 (n_1.Kids.map api_Node.pv)])], nx⟩))
                  (fun i s => False)
                  (fun s => ∃ res_34, .inl res_34 = e1 ∧ bodyR Tryd.prog [.tmp 2] (.bool res_34) [] .ret s) ?_ ?_ ?_ ?_
                · refine awp_block ?_
                  refine awp_loopJ fun I hI => ?_
                  have key : ∀ (suf pre : List api_Node) (i_25 : Int), n_1.Kids = pre ++ suf → i_25 = (pre.length : Int) → diptychref1_Formed_l1 n_1 (diptychref1_Formed_k kr) suf i_25 = some e1 → ∀ (nx : Nat) (g1 : Nat), I ⟨[(1, .box 1 g1 0), (5, .int .i64 i_25)], [(1, g1, .var 26 [.str n_1.Kind, .str n_1.Text, .list 1 (n_1.Marks.map PV.str), .list 2 (n_1.Attrs.map api_Attr.pv), .list 5 (n_1.Kids.map api_Node.pv)])], nx⟩ := by
                    intro suf
                    induction suf with
                    | nil =>
                      intro pre i_25 hsplit hidx hh nx g1
                      rw [diptychref1_Formed_l1] at hh
                      refine hI _ ?_
                      have h48 := walk_nil hsplit hidx
                      refine awp_seq ?_
                      refine awp_first fun K kk hK => ?_
                      simp only [go_sem]
                      refine hK _ _ fun nx => ?_; clear hK K; try clear kk
                      refine awp_false (by first | exact congrArg PV.bool h48 | rfl) ?_
                      refine awp_exit ?_; refine nmx ?_
                      refine fragN ?_
                      refine cut_id ?_
                      refine ⟨(Option.some.inj hh), ?_⟩
                      first | exact ⟨_, _, _, _, rfl⟩ | (simp only [api_Attr.pv_eq, api_Node.pv_eq, codec_reader.pv_eq, diptychref2_Reader.pv_eq, pvL, List.map_cons, List.map_nil, List.map_append, rune1]; exact ⟨_, _, _, _, rfl⟩) | (simp only [api_Attr.pv_eq, api_Node.pv_eq, codec_reader.pv_eq, diptychref2_Reader.pv_eq, pvL, List.map_cons, List.map_nil, List.map_append, rune1, h1, h23, h24, h25, h27, h48]; exact ⟨_, _, _, _, rfl⟩)
                    | cons y_30 suf ih =>
                      intro pre i_25 hsplit hidx hh nx g1
                      rw [diptychref1_Formed_l1] at hh
                      refine hI _ ?_
                      obtain ⟨hl1a, hl1b, hl1d, hl1w, h48⟩ := walk_cons (f := api_Node.pv) hsplit hidx hlen1
                      refine awp_seq ?_
                      refine awp_first fun K kk hK => ?_
                      simp only [go_sem]
                      refine hK _ _ fun nx => ?_; clear hK K; try clear kk
                      refine awp_true (by first | exact congrArg PV.bool h48 | rfl) ?_
                      refine awp_skip ?_; refine nmx ?_
                      refine awp_seq ?_
                      refine awp_block ?_
                      obtain ⟨formed_31, h49, hh⟩ := bind_ex hh
                      by_cases h50 : (!formed_31) = true
                      · rw [if_pos h50] at hh
                        refine awp_first fun K kk hK => ?_
                        simp only [go_sem, h50, h50, hl1a, hl1b, hl1d, hl1w]
                        (repeat refine sd ?_)
                        refine step_call2 (ih_diptychref1_Formed _ _ h49) (by (try simp only [go_sem, h50, h50, hl1a, hl1b, hl1d, hl1w]) <;> exact wkl) (by rfl) (by rfl) ?_
                        simp only [go_sem, h50, h50, hl1a, hl1b, hl1d, hl1w]
                        (repeat refine sd ?_)
                        refine hK _ _ fun nx => ?_; clear hK K; try clear kk
                        refine awp_true rfl ?_
                        refine awp_first fun K kk hK => ?_
                        simp only [go_sem, hl1a, hl1b, hl1d, hl1w]
                        refine hK _ _ fun nx => ?_; clear hK K; try clear kk
                        refine awp_ret ?_; refine nmx ?_
                        refine fragR ⟨_, (Option.some.inj hh), ?_⟩
                        exact ret_p2
                      · rw [if_neg h50] at hh
                        replace h50 := Bool.eq_false_iff.mpr h50
                        by_cases h51 : (decide (i_25 > (0 : Int))) = true
                        · rw [if_pos h51] at hh
                          by_cases h52 : (y_30.Kind == ([116, 101, 120, 116] : Str)) = true
                          · rw [if_pos h52] at hh
                            obtain ⟨x_32, h53, hh⟩ := bind_ex hh
                            obtain ⟨h53a, h53b, h53c⟩ := rd_some h53
                            have h53d := rd_get (f := api_Node.pv) h53c
                            have h53f := rd_more (f := api_Node.pv) h53c
                            try simp only [Int.toNat_natCast, Int.reduceToNat] at h53d h53f
                            by_cases h54 : (x_32.Kind == ([116, 101, 120, 116] : Str)) = true
                            · rw [if_pos h54] at hh
                              obtain ⟨samena_33, h55, hh⟩ := bind_ex hh
                              refine awp_first fun K kk hK => ?_
                              simp only [go_sem, h50, h51, of_decide_eq_true h51, h51, of_decide_eq_true h51, h52, h53a, h53b, h53d, h53f.1, h53f.2, h52, h54, h53a, h53b, h53d, h53f.1, h53f.2, h54, h50, hl1a, hl1b, hl1d, hl1w]
                              (repeat refine sd ?_)
                              refine step_call2 (ih_diptychref1_Formed _ _ h49) (by (try simp only [go_sem, h50, h51, of_decide_eq_true h51, h51, of_decide_eq_true h51, h52, h53a, h53b, h53d, h53f.1, h53f.2, h52, h54, h53a, h53b, h53d, h53f.1, h53f.2, h54, h50, hl1a, hl1b, hl1d, hl1w]) <;> exact wkl) (by rfl) (by rfl) ?_
                              simp only [go_sem, h50, h51, of_decide_eq_true h51, h51, of_decide_eq_true h51, h52, h53a, h53b, h53d, h53f.1, h53f.2, h52, h54, h53a, h53b, h53d, h53f.1, h53f.2, h54, h50, hl1a, hl1b, hl1d, hl1w]
                              (repeat refine sd ?_)
                              refine step_call2 (diptychref1_sameNames_ok _ _ _ h55) (by (try simp only [go_sem, h50, h51, of_decide_eq_true h51, h51, of_decide_eq_true h51, h52, h53a, h53b, h53d, h53f.1, h53f.2, h52, h54, h53a, h53b, h53d, h53f.1, h53f.2, h54, h50, hl1a, hl1b, hl1d, hl1w]) <;> exact wkl) (by rfl) (by rfl) ?_
                              simp only [go_sem, h50, h51, of_decide_eq_true h51, h51, of_decide_eq_true h51, h52, h53a, h53b, h53d, h53f.1, h53f.2, h52, h54, h53a, h53b, h53d, h53f.1, h53f.2, h54, h50, hl1a, hl1b, hl1d, hl1w]
                              (repeat refine sd ?_)
                              refine hK _ _ fun nx => ?_; clear hK K; try clear kk
                              by_cases h56 : (samena_33) = true
                              · rw [if_pos h56] at hh
                                refine awp_true (by first | exact congrArg PV.bool h56 | rfl) ?_
                                refine awp_first fun K kk hK => ?_
                                simp only [go_sem, hl1a, hl1b, hl1d, hl1w]
                                refine hK _ _ fun nx => ?_; clear hK K; try clear kk
                                refine awp_ret ?_; refine nmx ?_
                                refine fragR ⟨_, (Option.some.inj hh), ?_⟩
                                exact ret_p2
                              · rw [if_neg h56] at hh
                                replace h56 := Bool.eq_false_iff.mpr h56
                                refine awp_false (by first | exact congrArg PV.bool h56 | rfl) ?_
                                refine awp_skip ?_; refine nmx ?_
                                refine awp_region fun K kk hK => ?_
                                simp only [go_sem, hl1a, hl1b, hl1d, hl1w]
                                refine hK _ _ fun nx => ?_; clear hK K; try clear kk
                                refine nmx ?_
                                have ih' := ih (pre ++ [y_30]) (i_25 + 1) (by rw [hsplit]; simp) (by simp [hidx]) hh nx
                                refine cut_id ?_
                                first | exact ih' _ | (simp only [api_Attr.pv_eq, api_Node.pv_eq, codec_reader.pv_eq, diptychref2_Reader.pv_eq, pvL, List.map_cons, List.map_nil, List.map_append, rune1] at ih' ⊢; exact ih' _) | (simp only [api_Attr.pv_eq, api_Node.pv_eq, codec_reader.pv_eq, diptychref2_Reader.pv_eq, pvL, List.map_cons, List.map_nil, List.map_append, rune1, h1, h23, h24, h25, h27, h48, h50, h51, h52, h54, h56] at ih' ⊢; exact ih' _)
                            · rw [if_neg h54] at hh
                              replace h54 := Bool.eq_false_iff.mpr h54
                              refine awp_first fun K kk hK => ?_
                              simp only [go_sem, h50, h51, of_decide_eq_true h51, h51, of_decide_eq_true h51, h52, h53a, h53b, h53d, h53f.1, h53f.2, h52, h54, h54, h50, hl1a, hl1b, hl1d, hl1w]
                              (repeat refine sd ?_)
                              refine step_call2 (ih_diptychref1_Formed _ _ h49) (by (try simp only [go_sem, h50, h51, of_decide_eq_true h51, h51, of_decide_eq_true h51, h52, h53a, h53b, h53d, h53f.1, h53f.2, h52, h54, h54, h50, hl1a, hl1b, hl1d, hl1w]) <;> exact wkl) (by rfl) (by rfl) ?_
                              simp only [go_sem, h50, h51, of_decide_eq_true h51, h51, of_decide_eq_true h51, h52, h53a, h53b, h53d, h53f.1, h53f.2, h52, h54, h54, h50, hl1a, hl1b, hl1d, hl1w]
                              (repeat refine sd ?_)
                              refine hK _ _ fun nx => ?_; clear hK K; try clear kk
                              refine awp_false rfl ?_
                              refine awp_skip ?_; refine nmx ?_
                              refine awp_region fun K kk hK => ?_
                              simp only [go_sem, hl1a, hl1b, hl1d, hl1w]
                              refine hK _ _ fun nx => ?_; clear hK K; try clear kk
                              refine nmx ?_
                              have ih' := ih (pre ++ [y_30]) (i_25 + 1) (by rw [hsplit]; simp) (by simp [hidx]) hh nx
                              refine cut_id ?_
                              first | exact ih' _ | (simp only [api_Attr.pv_eq, api_Node.pv_eq, codec_reader.pv_eq, diptychref2_Reader.pv_eq, pvL, List.map_cons, List.map_nil, List.map_append, rune1] at ih' ⊢; exact ih' _) | (simp only [api_Attr.pv_eq, api_Node.pv_eq, codec_reader.pv_eq, diptychref2_Reader.pv_eq, pvL, List.map_cons, List.map_nil, List.map_append, rune1, h1, h23, h24, h25, h27, h48, h50, h51, h52, h54] at ih' ⊢; exact ih' _)
                          · rw [if_neg h52] at hh
                            replace h52 := Bool.eq_false_iff.mpr h52
                            refine awp_first fun K kk hK => ?_
                            simp only [go_sem, h50, h51, of_decide_eq_true h51, h51, of_decide_eq_true h51, h52, h52, h50, hl1a, hl1b, hl1d, hl1w]
                            (repeat refine sd ?_)
                            refine step_call2 (ih_diptychref1_Formed _ _ h49) (by (try simp only [go_sem, h50, h51, of_decide_eq_true h51, h51, of_decide_eq_true h51, h52, h52, h50, hl1a, hl1b, hl1d, hl1w]) <;> exact wkl) (by rfl) (by rfl) ?_
                            simp only [go_sem, h50, h51, of_decide_eq_true h51, h51, of_decide_eq_true h51, h52, h52, h50, hl1a, hl1b, hl1d, hl1w]
                            (repeat refine sd ?_)
                            refine hK _ _ fun nx => ?_; clear hK K; try clear kk
                            refine awp_false rfl ?_
                            refine awp_skip ?_; refine nmx ?_
                            refine awp_region fun K kk hK => ?_
                            simp only [go_sem, hl1a, hl1b, hl1d, hl1w]
                            refine hK _ _ fun nx => ?_; clear hK K; try clear kk
                            refine nmx ?_
                            have ih' := ih (pre ++ [y_30]) (i_25 + 1) (by rw [hsplit]; simp) (by simp [hidx]) hh nx
                            refine cut_id ?_
                            first | exact ih' _ | (simp only [api_Attr.pv_eq, api_Node.pv_eq, codec_reader.pv_eq, diptychref2_Reader.pv_eq, pvL, List.map_cons, List.map_nil, List.map_append, rune1] at ih' ⊢; exact ih' _) | (simp only [api_Attr.pv_eq, api_Node.pv_eq, codec_reader.pv_eq, diptychref2_Reader.pv_eq, pvL, List.map_cons, List.map_nil, List.map_append, rune1, h1, h23, h24, h25, h27, h48, h50, h51, h52] at ih' ⊢; exact ih' _)
                        · rw [if_neg h51] at hh
                          replace h51 := Bool.eq_false_iff.mpr h51
                          refine awp_first fun K kk hK => ?_
                          simp only [go_sem, h50, h51, of_decide_eq_false h51, h51, of_decide_eq_false h51, h50, hl1a, hl1b, hl1d, hl1w]
                          (repeat refine sd ?_)
                          refine step_call2 (ih_diptychref1_Formed _ _ h49) (by (try simp only [go_sem, h50, h51, of_decide_eq_false h51, h51, of_decide_eq_false h51, h50, hl1a, hl1b, hl1d, hl1w]) <;> exact wkl) (by rfl) (by rfl) ?_
                          simp only [go_sem, h50, h51, of_decide_eq_false h51, h51, of_decide_eq_false h51, h50, hl1a, hl1b, hl1d, hl1w]
                          (repeat refine sd ?_)
                          refine hK _ _ fun nx => ?_; clear hK K; try clear kk
                          refine awp_false rfl ?_
                          refine awp_skip ?_; refine nmx ?_
                          refine awp_region fun K kk hK => ?_
                          simp only [go_sem, hl1a, hl1b, hl1d, hl1w]
                          refine hK _ _ fun nx => ?_; clear hK K; try clear kk
                          refine nmx ?_
                          have ih' := ih (pre ++ [y_30]) (i_25 + 1) (by rw [hsplit]; simp) (by simp [hidx]) hh nx
                          refine cut_id ?_
                          first | exact ih' _ | (simp only [api_Attr.pv_eq, api_Node.pv_eq, codec_reader.pv_eq, diptychref2_Reader.pv_eq, pvL, List.map_cons, List.map_nil, List.map_append, rune1] at ih' ⊢; exact ih' _) | (simp only [api_Attr.pv_eq, api_Node.pv_eq, codec_reader.pv_eq, diptychref2_Reader.pv_eq, pvL, List.map_cons, List.map_nil, List.map_append, rune1, h1, h23, h24, h25, h27, h48, h50, h51] at ih' ⊢; exact ih' _)
                  exact key n_1.Kids [] _ rfl rfl f1 _ _
                · rintro s ⟨t, hless, rfl, i_35, v_36, nx, g1, rfl⟩
                  try dsimp only at hh
                  refine nmy ?_
                  first | (refine cut_less hless ?_; try refine cut_awp ?_) | refine frag_less hless ?_ | refine body_less hless ?_
                  refine awp_first fun K kk hK => ?_
                  simp only [go_sem]
                  refine hK _ _ fun nx => ?_; clear hK K; try clear kk
                  refine awp_ret ?_; refine nmx ?_
                  obtain hR := Option.some.inj hh
                  subst hR
                  exact ret_p2
                · intro i s h; exact h.elim
                · rintro s ⟨res_34, rfl, hb⟩
                  try dsimp only at hh
                  obtain hR := Option.some.inj hh
                  subst hR
                  refine nmx ?_
                  exact hb
      · intro i s h; exact h.elim
      · rintro s ⟨res_15, rfl, hb⟩
        try dsimp only at hh
        obtain hR := Option.some.inj hh
        subst hR
        refine nmx ?_
        exact hb
theorem diptychref1_Formed_ok (n_1 : api_Node) (R : Bool) (hh : diptychref1_Formed n_1 = some R) : PC Tryd.prog 46 [.agg [.str n_1.Kind, .str n_1.Text, .list 1 (n_1.Marks.map PV.str), .list 2 (n_1.Attrs.map api_Attr.pv), .list 5 (n_1.Kids.map api_Node.pv)]] (.bool R) := by
  rw [diptychref1_Formed] at hh
  obtain ⟨kr, hh⟩ := lim_some hh
  exact (diptychref1_Formed_grp kr) _ _ hh
theorem diptychref1_Depth_grp : ∀ kr : Nat, (∀ (n_1 : api_Node) (R : Int), diptychref1_Depth_k kr n_1 = some R → PC Tryd.prog 53 [.agg [.str n_1.Kind, .str n_1.Text, .list 1 (n_1.Marks.map PV.str), .list 2 (n_1.Attrs.map api_Attr.pv), .list 5 (n_1.Kids.map api_Node.pv)]] (.int .i64 R)) := by
  intro kr
  induction kr with
  | zero => exact (by intro n_1 R hh; rw [diptychref1_Depth_k] at hh; cases hh)
  | succ kr ih =>
    have ih_diptychref1_Depth := ih
    clear ih
    intro n_1 R hh
    rw [diptychref1_Depth_k] at hh
    refine start_diptychref1_Depth rfl ?_
    refine awp_first fun K kk hK => ?_
    simp only [go_sem]
    refine hK _ _ fun nx => ?_; clear hK K; try clear kk
    refine awp_seq ?_
    refine awp_first fun K kk hK => ?_
    simp only [go_sem]
    refine hK _ _ fun nx => ?_; clear hK K; try clear kk
    by_cases h1 : (n_1.Kind == ([116, 101, 120, 116] : Str)) = true
    · rw [if_pos h1] at hh
      refine awp_true (by first | exact congrArg PV.bool h1 | rfl) ?_
      refine awp_first fun K kk hK => ?_
      simp only [go_sem]
      refine hK _ _ fun nx => ?_; clear hK K; try clear kk
      refine awp_ret ?_; refine nmx ?_
      obtain hR := Option.some.inj hh
      subst hR
      exact ret_p2
    · rw [if_neg h1] at hh
      replace h1 := Bool.eq_false_iff.mpr h1
      refine awp_false (by first | exact congrArg PV.bool h1 | rfl) ?_
      refine awp_skip ?_; refine nmx ?_
      refine awp_first fun K kk hK => ?_
      simp only [go_sem]
      refine hK _ _ fun nx => ?_; clear hK K; try clear kk
      refine awp_seq ?_
      refine awp_first fun K kk hK => ?_
      simp only [go_sem]
      refine hK _ _ fun nx => ?_; clear hK K; try clear kk
      obtain ⟨e0, f0, hh⟩ := bind_ex hh
      obtain ⟨hlen0, f0⟩ := chk_some f0
      refine awp_fragE (CutTo (fun s => ∃ d_10, d_10 = e0 ∧ ∃ (i_11 : Int) (v_12 : Bool) (nx : Nat) (g1 : Nat), s = ⟨[(1, .box 1 g1 0), (3, .int .i64 d_10), (4, .int .i64 i_11), (12, .bool v_12)], [(1, g1, .var 26 [.str n_1.Kind, .str n_1.Text, .list 1 (n_1.Marks.map PV.str), .list 2 (n_1.Attrs.map api_Attr.pv), .list 5 (n_1.Kids.map api_Node.pv)])], nx⟩))
        (fun i s => False)
        (fun s => False) ?_ ?_ ?_ ?_
      · refine awp_block ?_
        refine awp_loopJ fun I hI => ?_
        have key : ∀ (suf pre : List api_Node) (i_5 : Int) (d_4 : Int), n_1.Kids = pre ++ suf → i_5 = (pre.length : Int) → diptychref1_Depth_l0 (diptychref1_Depth_k kr) suf i_5 d_4 = some e0 → ∀ (nx : Nat) (g1 : Nat), I ⟨[(1, .box 1 g1 0), (3, .int .i64 d_4), (4, .int .i64 i_5)], [(1, g1, .var 26 [.str n_1.Kind, .str n_1.Text, .list 1 (n_1.Marks.map PV.str), .list 2 (n_1.Attrs.map api_Attr.pv), .list 5 (n_1.Kids.map api_Node.pv)])], nx⟩ := by
          intro suf
          induction suf with
          | nil =>
            intro pre i_5 d_4 hsplit hidx hh nx g1
            rw [diptychref1_Depth_l0] at hh
            refine hI _ ?_
            have h8 := walk_nil hsplit hidx
            refine awp_seq ?_
            refine awp_first fun K kk hK => ?_
            simp only [go_sem]
            refine hK _ _ fun nx => ?_; clear hK K; try clear kk
            refine awp_false (by first | exact congrArg PV.bool h8 | rfl) ?_
            refine awp_exit ?_; refine nmx ?_
            refine fragN ?_
            refine cut_id ?_
            refine ⟨_, (Option.some.inj hh), ?_⟩
            first | exact ⟨_, _, _, _, rfl⟩ | (simp only [api_Attr.pv_eq, api_Node.pv_eq, codec_reader.pv_eq, diptychref2_Reader.pv_eq, pvL, List.map_cons, List.map_nil, List.map_append, rune1]; exact ⟨_, _, _, _, rfl⟩) | (simp only [api_Attr.pv_eq, api_Node.pv_eq, codec_reader.pv_eq, diptychref2_Reader.pv_eq, pvL, List.map_cons, List.map_nil, List.map_append, rune1, h1, h8]; exact ⟨_, _, _, _, rfl⟩)
          | cons y_8 suf ih =>
            intro pre i_5 d_4 hsplit hidx hh nx g1
            rw [diptychref1_Depth_l0] at hh
            refine hI _ ?_
            obtain ⟨hl0a, hl0b, hl0d, hl0w, h8⟩ := walk_cons (f := api_Node.pv) hsplit hidx hlen0
            refine awp_seq ?_
            refine awp_first fun K kk hK => ?_
            simp only [go_sem]
            refine hK _ _ fun nx => ?_; clear hK K; try clear kk
            refine awp_true (by first | exact congrArg PV.bool h8 | rfl) ?_
            refine awp_skip ?_; refine nmx ?_
            refine awp_seq ?_
            refine awp_block ?_
            obtain ⟨depth_9, h9, hh⟩ := bind_ex hh
            refine awp_region fun K kk hK => ?_
            simp only [go_sem, hl0a, hl0b, hl0d, hl0w]
            refine step_call2 (ih_diptychref1_Depth _ _ h9) (by (try simp only [go_sem, hl0a, hl0b, hl0d, hl0w]) <;> exact wkl) (by rfl) (by rfl) ?_
            simp only [go_sem, hl0a, hl0b, hl0d, hl0w]
            refine hK _ _ fun nx => ?_; clear hK K; try clear kk
            refine nmx ?_
            refine awp_region fun K kk hK => ?_
            simp only [go_sem, hl0a, hl0b, hl0d, hl0w]
            refine hK _ _ fun nx => ?_; clear hK K; try clear kk
            refine nmx ?_
            have ih' := ih (pre ++ [y_8]) (i_5 + 1) _ (by rw [hsplit]; simp) (by simp [hidx]) hh nx
            refine cut_id ?_
            first | exact ih' _ | (simp only [api_Attr.pv_eq, api_Node.pv_eq, codec_reader.pv_eq, diptychref2_Reader.pv_eq, pvL, List.map_cons, List.map_nil, List.map_append, rune1] at ih' ⊢; exact ih' _) | (simp only [api_Attr.pv_eq, api_Node.pv_eq, codec_reader.pv_eq, diptychref2_Reader.pv_eq, pvL, List.map_cons, List.map_nil, List.map_append, rune1, h1, h8] at ih' ⊢; exact ih' _)
        exact key n_1.Kids [] _ _ rfl rfl f0 _ _
      · rintro s ⟨t, hless, d_10, rfl, i_11, v_12, nx, g1, rfl⟩
        try dsimp only at hh
        refine nmy ?_
        first | (refine cut_less hless ?_; try refine cut_awp ?_) | refine frag_less hless ?_ | refine body_less hless ?_
        refine awp_first fun K kk hK => ?_
        simp only [go_sem]
        refine hK _ _ fun nx => ?_; clear hK K; try clear kk
        refine awp_ret ?_; refine nmx ?_
        obtain hR := Option.some.inj hh
        subst hR
        exact ret_p2
      · intro i s h; exact h.elim
      · intro s h; exact h.elim
theorem diptychref1_Depth_ok (n_1 : api_Node) (R : Int) (hh : diptychref1_Depth n_1 = some R) : PC Tryd.prog 53 [.agg [.str n_1.Kind, .str n_1.Text, .list 1 (n_1.Marks.map PV.str), .list 2 (n_1.Attrs.map api_Attr.pv), .list 5 (n_1.Kids.map api_Node.pv)]] (.int .i64 R) := by
  rw [diptychref1_Depth] at hh
  obtain ⟨kr, hh⟩ := lim_some hh
  exact (diptychref1_Depth_grp kr) _ _ hh
theorem diptychref1_Total_grp : ∀ kr : Nat, (∀ (l_1 : (List api_Node)) (R : Int), diptychref1_Total_k kr l_1 = some R → PC Tryd.prog 77 [.list 5 (l_1.map api_Node.pv)] (.int .i64 R)) ∧
    (∀ (n_1 : api_Node) (R : Int), diptychref1_Size_k kr n_1 = some R → PC Tryd.prog 54 [.agg [.str n_1.Kind, .str n_1.Text, .list 1 (n_1.Marks.map PV.str), .list 2 (n_1.Attrs.map api_Attr.pv), .list 5 (n_1.Kids.map api_Node.pv)]] (.int .i64 R)) := by
  intro kr
  induction kr with
  | zero => exact ⟨(by intro l_1 R hh; rw [diptychref1_Total_k] at hh; cases hh), (by intro n_1 R hh; rw [diptychref1_Size_k] at hh; cases hh)⟩
  | succ kr ih =>
    obtain ⟨ih_diptychref1_Total, ih_diptychref1_Size⟩ := ih
    refine ⟨?_, ?_⟩
    · intro l_1 R hh
      rw [diptychref1_Total_k] at hh
      refine start_diptychref1_Total rfl ?_
      refine awp_first fun K kk hK => ?_
      simp only [go_sem]
      refine hK _ _ fun nx => ?_; clear hK K; try clear kk
      refine awp_first fun K kk hK => ?_
      simp only [go_sem]
      refine hK _ _ fun nx => ?_; clear hK K; try clear kk
      refine awp_seq ?_
      refine awp_first fun K kk hK => ?_
      simp only [go_sem]
      refine hK _ _ fun nx => ?_; clear hK K; try clear kk
      obtain ⟨e0, f0, hh⟩ := bind_ex hh
      obtain ⟨hlen0, f0⟩ := chk_some f0
      refine awp_fragE (CutTo (fun s => ∃ many_10, many_10 = e0 ∧ ∃ (i_11 : Int) (v_12 : Bool) (nx : Nat), s = ⟨[(0, .list 5 (l_1.map api_Node.pv)), (3, .int .i64 many_10), (4, .int .i64 i_11), (8, .bool v_12)], [], nx⟩))
        (fun i s => False)
        (fun s => False) ?_ ?_ ?_ ?_
      · refine awp_block ?_
        refine awp_loopJ fun I hI => ?_
        have key : ∀ (suf pre : List api_Node) (i_5 : Int) (many_4 : Int), l_1 = pre ++ suf → i_5 = (pre.length : Int) → diptychref1_Total_l0 (diptychref1_Size_k kr) suf i_5 many_4 = some e0 → ∀ (nx : Nat), I ⟨[(0, .list 5 (l_1.map api_Node.pv)), (3, .int .i64 many_4), (4, .int .i64 i_5)], [], nx⟩ := by
          intro suf
          induction suf with
          | nil =>
            intro pre i_5 many_4 hsplit hidx hh nx
            rw [diptychref1_Total_l0] at hh
            refine hI _ ?_
            have h7 := walk_nil hsplit hidx
            refine awp_seq ?_
            refine awp_first fun K kk hK => ?_
            simp only [go_sem]
            refine hK _ _ fun nx => ?_; clear hK K; try clear kk
            refine awp_false (by first | exact congrArg PV.bool h7 | rfl) ?_
            refine awp_exit ?_; refine nmx ?_
            refine fragN ?_
            refine cut_id ?_
            refine ⟨_, (Option.some.inj hh), ?_⟩
            first | exact ⟨_, _, _, rfl⟩ | (simp only [api_Attr.pv_eq, api_Node.pv_eq, codec_reader.pv_eq, diptychref2_Reader.pv_eq, pvL, List.map_cons, List.map_nil, List.map_append, rune1]; exact ⟨_, _, _, rfl⟩) | (simp only [api_Attr.pv_eq, api_Node.pv_eq, codec_reader.pv_eq, diptychref2_Reader.pv_eq, pvL, List.map_cons, List.map_nil, List.map_append, rune1, h7]; exact ⟨_, _, _, rfl⟩)
          | cons y_8 suf ih =>
            intro pre i_5 many_4 hsplit hidx hh nx
            rw [diptychref1_Total_l0] at hh
            refine hI _ ?_
            obtain ⟨hl0a, hl0b, hl0d, hl0w, h7⟩ := walk_cons (f := api_Node.pv) hsplit hidx hlen0
            refine awp_seq ?_
            refine awp_first fun K kk hK => ?_
            simp only [go_sem]
            refine hK _ _ fun nx => ?_; clear hK K; try clear kk
            refine awp_true (by first | exact congrArg PV.bool h7 | rfl) ?_
            refine awp_skip ?_; refine nmx ?_
            refine awp_seq ?_
            refine awp_block ?_
            obtain ⟨size_9, h8, hh⟩ := bind_ex hh
            refine awp_region fun K kk hK => ?_
            simp only [go_sem, hl0a, hl0b, hl0d, hl0w]
            refine step_call2 (ih_diptychref1_Size _ _ h8) (by (try simp only [go_sem, hl0a, hl0b, hl0d, hl0w]) <;> exact wkl) (by rfl) (by rfl) ?_
            simp only [go_sem, hl0a, hl0b, hl0d, hl0w]
            refine hK _ _ fun nx => ?_; clear hK K; try clear kk
            refine nmx ?_
            refine awp_region fun K kk hK => ?_
            simp only [go_sem, hl0a, hl0b, hl0d, hl0w]
            refine hK _ _ fun nx => ?_; clear hK K; try clear kk
            refine nmx ?_
            have ih' := ih (pre ++ [y_8]) (i_5 + 1) _ (by rw [hsplit]; simp) (by simp [hidx]) hh nx
            refine cut_id ?_
            first | exact ih' | (simp only [api_Attr.pv_eq, api_Node.pv_eq, codec_reader.pv_eq, diptychref2_Reader.pv_eq, pvL, List.map_cons, List.map_nil, List.map_append, rune1] at ih' ⊢; exact ih') | (simp only [api_Attr.pv_eq, api_Node.pv_eq, codec_reader.pv_eq, diptychref2_Reader.pv_eq, pvL, List.map_cons, List.map_nil, List.map_append, rune1, h7] at ih' ⊢; exact ih')
        exact key l_1 [] _ _ rfl rfl f0 _
      · rintro s ⟨t, hless, many_10, rfl, i_11, v_12, nx, rfl⟩
        try dsimp only at hh
        refine nmy ?_
        first | (refine cut_less hless ?_; try refine cut_awp ?_) | refine frag_less hless ?_ | refine body_less hless ?_
        refine awp_first fun K kk hK => ?_
        simp only [go_sem]
        refine hK _ _ fun nx => ?_; clear hK K; try clear kk
        refine awp_ret ?_; refine nmx ?_
        obtain hR := Option.some.inj hh
        subst hR
        exact ret_p2
      · intro i s h; exact h.elim
      · intro s h; exact h.elim
    · intro n_1 R hh
      rw [diptychref1_Size_k] at hh
      refine start_diptychref1_Size rfl ?_
      refine awp_first fun K kk hK => ?_
      simp only [go_sem]
      refine hK _ _ fun nx => ?_; clear hK K; try clear kk
      refine awp_seq ?_
      refine awp_first fun K kk hK => ?_
      simp only [go_sem]
      refine hK _ _ fun nx => ?_; clear hK K; try clear kk
      by_cases h1 : (n_1.Kind == ([116, 101, 120, 116] : Str)) = true
      · rw [if_pos h1] at hh
        refine awp_true (by first | exact congrArg PV.bool h1 | rfl) ?_
        obtain ⟨⟨r_2, r_3⟩, h2, hh⟩ := bind_ex hh
        dsimp only at hh
        refine awp_first fun K kk hK => ?_
        simp only [go_sem]
        refine step_call2 (diptychref1_runes_ok _ _ h2) (by (try simp only [go_sem]) <;> exact wkl) (by rfl) (by rfl) ?_
        simp only [go_sem]
        refine hK _ _ fun nx => ?_; clear hK K; try clear kk
        refine awp_first fun K kk hK => ?_
        simp only [go_sem]
        refine hK _ _ fun nx => ?_; clear hK K; try clear kk
        refine awp_ret ?_; refine nmx ?_
        obtain hR := Option.some.inj hh
        subst hR
        exact ret_p2
      · rw [if_neg h1] at hh
        replace h1 := Bool.eq_false_iff.mpr h1
        refine awp_false (by first | exact congrArg PV.bool h1 | rfl) ?_
        refine awp_skip ?_; refine nmx ?_
        obtain ⟨total_4, h3, hh⟩ := bind_ex hh
        refine awp_first fun K kk hK => ?_
        simp only [go_sem]
        refine step_call2 (ih_diptychref1_Total _ _ h3) (by (try simp only [go_sem]) <;> exact wkl) (by rfl) (by rfl) ?_
        simp only [go_sem]
        refine hK _ _ fun nx => ?_; clear hK K; try clear kk
        refine awp_ret ?_; refine nmx ?_
        obtain hR := Option.some.inj hh
        subst hR
        exact ret_p2
theorem diptychref1_Total_ok (l_1 : (List api_Node)) (R : Int) (hh : diptychref1_Total l_1 = some R) : PC Tryd.prog 77 [.list 5 (l_1.map api_Node.pv)] (.int .i64 R) := by
  rw [diptychref1_Total] at hh
  obtain ⟨kr, hh⟩ := lim_some hh
  exact (diptychref1_Total_grp kr).1 _ _ hh
theorem diptychref1_Size_ok (n_1 : api_Node) (R : Int) (hh : diptychref1_Size n_1 = some R) : PC Tryd.prog 54 [.agg [.str n_1.Kind, .str n_1.Text, .list 1 (n_1.Marks.map PV.str), .list 2 (n_1.Attrs.map api_Attr.pv), .list 5 (n_1.Kids.map api_Node.pv)]] (.int .i64 R) := by
  rw [diptychref1_Size] at hh
  obtain ⟨kr, hh⟩ := lim_some hh
  exact (diptychref1_Total_grp kr).2 _ _ hh
theorem diptychref1_Check_ok (n_1 : api_Node) (R : Int) (hh : diptychref1_Check n_1 = some R) : PC Tryd.prog 35 [.agg [.str n_1.Kind, .str n_1.Text, .list 1 (n_1.Marks.map PV.str), .list 2 (n_1.Attrs.map api_Attr.pv), .list 5 (n_1.Kids.map api_Node.pv)]] (.int .i64 R) := by
  rw [diptychref1_Check] at hh
  refine start_diptychref1_Check rfl ?_
  refine awp_first fun K kk hK => ?_
  simp only [go_sem]
  refine hK _ _ fun nx => ?_; clear hK K; try clear kk
  refine awp_seq ?_
  obtain ⟨formed_2, h1, hh⟩ := bind_ex hh
  refine awp_first fun K kk hK => ?_
  simp only [go_sem]
  refine step_call2 (diptychref1_Formed_ok _ _ h1) (by (try simp only [go_sem]) <;> exact wkl) (by rfl) (by rfl) ?_
  simp only [go_sem]
  refine hK _ _ fun nx => ?_; clear hK K; try clear kk
  by_cases h2 : (!formed_2) = true
  · rw [if_pos h2] at hh
    refine awp_true (by first | exact congrArg PV.bool h2 | rfl) ?_
    refine awp_first fun K kk hK => ?_
    simp only [go_sem]
    refine hK _ _ fun nx => ?_; clear hK K; try clear kk
    refine awp_ret ?_; refine nmx ?_
    obtain hR := Option.some.inj hh
    subst hR
    exact ret_p2
  · rw [if_neg h2] at hh
    replace h2 := Bool.eq_false_iff.mpr h2
    refine awp_false (by first | exact congrArg PV.bool h2 | rfl) ?_
    refine awp_skip ?_; refine nmx ?_
    refine awp_seq ?_
    obtain ⟨depth_3, h3, hh⟩ := bind_ex hh
    refine awp_first fun K kk hK => ?_
    simp only [go_sem]
    refine step_call2 (diptychref1_Depth_ok _ _ h3) (by (try simp only [go_sem]) <;> exact wkl) (by rfl) (by rfl) ?_
    simp only [go_sem]
    refine hK _ _ fun nx => ?_; clear hK K; try clear kk
    by_cases h4 : (decide (depth_3 > (40 : Int))) = true
    · rw [if_pos h4] at hh
      refine awp_true (by first | exact congrArg PV.bool h4 | rfl) ?_
      refine awp_first fun K kk hK => ?_
      simp only [go_sem]
      refine hK _ _ fun nx => ?_; clear hK K; try clear kk
      refine awp_ret ?_; refine nmx ?_
      obtain hR := Option.some.inj hh
      subst hR
      exact ret_p2
    · rw [if_neg h4] at hh
      replace h4 := Bool.eq_false_iff.mpr h4
      refine awp_false (by first | exact congrArg PV.bool h4 | rfl) ?_
      refine awp_skip ?_; refine nmx ?_
      refine awp_seq ?_
      obtain ⟨size_4, h5, hh⟩ := bind_ex hh
      refine awp_first fun K kk hK => ?_
      simp only [go_sem]
      refine step_call2 (diptychref1_Size_ok _ _ h5) (by (try simp only [go_sem]) <;> exact wkl) (by rfl) (by rfl) ?_
      simp only [go_sem]
      refine hK _ _ fun nx => ?_; clear hK K; try clear kk
      by_cases h6 : (decide (size_4 > (4000 : Int))) = true
      · rw [if_pos h6] at hh
        refine awp_true (by first | exact congrArg PV.bool h6 | rfl) ?_
        refine awp_first fun K kk hK => ?_
        simp only [go_sem]
        refine hK _ _ fun nx => ?_; clear hK K; try clear kk
        refine awp_ret ?_; refine nmx ?_
        obtain hR := Option.some.inj hh
        subst hR
        exact ret_p2
      · rw [if_neg h6] at hh
        replace h6 := Bool.eq_false_iff.mpr h6
        refine awp_false (by first | exact congrArg PV.bool h6 | rfl) ?_
        refine awp_skip ?_; refine nmx ?_
        refine awp_first fun K kk hK => ?_
        simp only [go_sem]
        refine hK _ _ fun nx => ?_; clear hK K; try clear kk
        refine awp_ret ?_; refine nmx ?_
        obtain hR := Option.some.inj hh
        subst hR
        exact ret_p2
theorem diptychref2_Quote_ok (s_1 : Str) (R : Str) (hh : diptychref2_Quote s_1 = some R) : PC Tryd.prog 17 [.str s_1] (.str R) := by
  rw [diptychref2_Quote] at hh
  refine start_diptychref2_Quote rfl ?_
  refine awp_first fun K kk hK => ?_
  simp only [go_sem]
  refine hK _ _ fun nx => ?_; clear hK K; try clear kk
  refine awp_first fun K kk hK => ?_
  simp only [go_sem]
  refine hK _ _ fun nx => ?_; clear hK K; try clear kk
  refine awp_seq ?_
  refine awp_first fun K kk hK => ?_
  simp only [go_sem]
  refine hK _ _ fun nx => ?_; clear hK K; try clear kk
  obtain ⟨e0, f0, hh⟩ := bind_ex hh
  refine awp_fragE (CutTo (fun s => ∃ out_10, out_10 = e0 ∧ ∃ (i_11 : Int) (v_12 : Bool) (nx : Nat), s = ⟨[(0, .str s_1), (3, .str out_10), (4, .int .i64 i_11), (8, .bool v_12)], [], nx⟩))
    (fun i s => False)
    (fun s => False) ?_ ?_ ?_ ?_
  · refine awp_block ?_
    refine awp_loopJ fun I hI => ?_
    obtain ⟨k, f0⟩ := lim_some f0
    have key : ∀ (k : Nat) (out_5 : Str) (i_6 : Int), diptychref2_Quote_l0 s_1 k out_5 i_6 = some e0 → ∀ (nx : Nat), I ⟨[(0, .str s_1), (3, .str out_5), (4, .int .i64 i_6)], [], nx⟩ := by
      intro k
      induction k with
      | zero => intro out_5 i_6 hh; rw [diptychref2_Quote_l0] at hh; cases hh
      | succ k ih =>
        intro out_5 i_6 hh nx
        rw [diptychref2_Quote_l0] at hh
        refine hI _ ?_
        refine awp_seq ?_
        refine awp_first fun K kk hK => ?_
        simp only [go_sem]
        refine hK _ _ fun nx => ?_; clear hK K; try clear kk
        by_cases h14 : (decide (i_6 < (s_1.length : Int))) = true
        · rw [if_pos h14] at hh
          refine awp_true (by first | exact congrArg PV.bool h14 | rfl) ?_
          refine awp_skip ?_; refine nmx ?_
          refine awp_seq ?_
          refine awp_block ?_
          refine awp_seq ?_
          obtain ⟨h15, hh⟩ := chk_some hh
          by_cases h16 : (((s_1.getD i_6.toNat 0).toNat : Int) == (34 : Int)) = true
          · rw [if_pos h16] at hh
            refine awp_first fun K kk hK => ?_
            simp only [go_sem, h15.1, h15.2, h16, h16]
            (repeat refine sd ?_)
            refine hK _ _ fun nx => ?_; clear hK K; try clear kk
            refine awp_true rfl ?_
            obtain ⟨h17, hh⟩ := chk_some hh
            refine awp_region fun K kk hK => ?_
            simp only [go_sem, h17]
            (repeat refine sd ?_)
            refine hK _ _ fun nx => ?_; clear hK K; try clear kk
            refine nmx ?_
            obtain ⟨s_7, h18, hh⟩ := bind_ex hh
            obtain ⟨h18a, h18c⟩ := sl_some h18
            have h18g := sl_le h18a
            have h18d := id h18c
            try simp only [Int.toNat_natCast, Int.reduceToNat] at h18d
            obtain ⟨h19, hh⟩ := chk_some hh
            refine awp_region fun K kk hK => ?_
            simp only [go_sem, h18a.1, h18a.2.1, h18a.2.2, h18d, h18g, h19]
            (repeat refine sd ?_)
            refine hK _ _ fun nx => ?_; clear hK K; try clear kk
            refine nmx ?_
            refine awp_region fun K kk hK => ?_
            simp only [go_sem]
            refine hK _ _ fun nx => ?_; clear hK K; try clear kk
            refine nmx ?_
            have ih' := ih _ _ hh nx
            refine cut_id ?_
            first | exact ih' | (simp only [api_Attr.pv_eq, api_Node.pv_eq, codec_reader.pv_eq, diptychref2_Reader.pv_eq, pvL, List.map_cons, List.map_nil, List.map_append, rune1] at ih' ⊢; exact ih') | (simp only [api_Attr.pv_eq, api_Node.pv_eq, codec_reader.pv_eq, diptychref2_Reader.pv_eq, pvL, List.map_cons, List.map_nil, List.map_append, rune1, h14, h16] at ih' ⊢; exact ih')
          · rw [if_neg h16] at hh
            replace h16 := Bool.eq_false_iff.mpr h16
            obtain ⟨h20, hh⟩ := chk_some hh
            refine awp_first fun K kk hK => ?_
            simp only [go_sem, h15.1, h15.2, h16, h20.1, h20.2, h16]
            (repeat refine sd ?_)
            refine hK _ _ fun nx => ?_; clear hK K; try clear kk
            by_cases h21 : (((s_1.getD i_6.toNat 0).toNat : Int) == (92 : Int)) = true
            · rw [if_pos h21] at hh
              refine awp_true (by first | exact congrArg PV.bool h21 | rfl) ?_
              obtain ⟨h22, hh⟩ := chk_some hh
              refine awp_region fun K kk hK => ?_
              simp only [go_sem, h22]
              (repeat refine sd ?_)
              refine hK _ _ fun nx => ?_; clear hK K; try clear kk
              refine nmx ?_
              obtain ⟨s_8, h23, hh⟩ := bind_ex hh
              obtain ⟨h23a, h23c⟩ := sl_some h23
              have h23g := sl_le h23a
              have h23d := id h23c
              try simp only [Int.toNat_natCast, Int.reduceToNat] at h23d
              obtain ⟨h24, hh⟩ := chk_some hh
              refine awp_region fun K kk hK => ?_
              simp only [go_sem, h23a.1, h23a.2.1, h23a.2.2, h23d, h23g, h24]
              (repeat refine sd ?_)
              refine hK _ _ fun nx => ?_; clear hK K; try clear kk
              refine nmx ?_
              refine awp_region fun K kk hK => ?_
              simp only [go_sem]
              refine hK _ _ fun nx => ?_; clear hK K; try clear kk
              refine nmx ?_
              have ih' := ih _ _ hh nx
              refine cut_id ?_
              first | exact ih' | (simp only [api_Attr.pv_eq, api_Node.pv_eq, codec_reader.pv_eq, diptychref2_Reader.pv_eq, pvL, List.map_cons, List.map_nil, List.map_append, rune1] at ih' ⊢; exact ih') | (simp only [api_Attr.pv_eq, api_Node.pv_eq, codec_reader.pv_eq, diptychref2_Reader.pv_eq, pvL, List.map_cons, List.map_nil, List.map_append, rune1, h14, h16, h21] at ih' ⊢; exact ih')
            · rw [if_neg h21] at hh
              replace h21 := Bool.eq_false_iff.mpr h21
              refine awp_false (by first | exact congrArg PV.bool h21 | rfl) ?_
              refine awp_skip ?_; refine nmx ?_
              obtain ⟨s_9, h25, hh⟩ := bind_ex hh
              obtain ⟨h25a, h25c⟩ := sl_some h25
              have h25g := sl_le h25a
              have h25d := id h25c
              try simp only [Int.toNat_natCast, Int.reduceToNat] at h25d
              obtain ⟨h26, hh⟩ := chk_some hh
              refine awp_region fun K kk hK => ?_
              simp only [go_sem, h25a.1, h25a.2.1, h25a.2.2, h25d, h25g, h26]
              (repeat refine sd ?_)
              refine hK _ _ fun nx => ?_; clear hK K; try clear kk
              refine nmx ?_
              refine awp_region fun K kk hK => ?_
              simp only [go_sem]
              refine hK _ _ fun nx => ?_; clear hK K; try clear kk
              refine nmx ?_
              have ih' := ih _ _ hh nx
              refine cut_id ?_
              first | exact ih' | (simp only [api_Attr.pv_eq, api_Node.pv_eq, codec_reader.pv_eq, diptychref2_Reader.pv_eq, pvL, List.map_cons, List.map_nil, List.map_append, rune1] at ih' ⊢; exact ih') | (simp only [api_Attr.pv_eq, api_Node.pv_eq, codec_reader.pv_eq, diptychref2_Reader.pv_eq, pvL, List.map_cons, List.map_nil, List.map_append, rune1, h14, h16, h21] at ih' ⊢; exact ih')
        · rw [if_neg h14] at hh
          replace h14 := Bool.eq_false_iff.mpr h14
          refine awp_false (by first | exact congrArg PV.bool h14 | rfl) ?_
          refine awp_exit ?_; refine nmx ?_
          refine fragN ?_
          refine cut_id ?_
          refine ⟨_, (Option.some.inj hh), ?_⟩
          first | exact ⟨_, _, _, rfl⟩ | (simp only [api_Attr.pv_eq, api_Node.pv_eq, codec_reader.pv_eq, diptychref2_Reader.pv_eq, pvL, List.map_cons, List.map_nil, List.map_append, rune1]; exact ⟨_, _, _, rfl⟩) | (simp only [api_Attr.pv_eq, api_Node.pv_eq, codec_reader.pv_eq, diptychref2_Reader.pv_eq, pvL, List.map_cons, List.map_nil, List.map_append, rune1, h14]; exact ⟨_, _, _, rfl⟩)
    exact key _ _ _ f0 _
  · rintro s ⟨t, hless, out_10, rfl, i_11, v_12, nx, rfl⟩
    try dsimp only at hh
    refine nmy ?_
    first | (refine cut_less hless ?_; try refine cut_awp ?_) | refine frag_less hless ?_ | refine body_less hless ?_
    obtain ⟨h27, hh⟩ := chk_some hh
    refine awp_first fun K kk hK => ?_
    simp only [go_sem, h27]
    (repeat refine sd ?_)
    refine hK _ _ fun nx => ?_; clear hK K; try clear kk
    refine awp_ret ?_; refine nmx ?_
    obtain hR := Option.some.inj hh
    subst hR
    exact ret_p2
  · intro i s h; exact h.elim
  · intro s h; exact h.elim

end Go.Proofs.YtihndopckmdpbaaDoor
