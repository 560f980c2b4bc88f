/- Texts of the proof of stepMarksCard -/
import Derived.Test.YtclohbgnaopjfaaDoorAgC
import Derived.Test.YtclohbgnaopjfaaDoorAgF
import Derived.Test.YtclohbgnaopjfaaDoorAgK0
namespace Go.Proofs.YtclohbgnaopjfaaDoor
set_option linter.unusedSimpArgs false
set_option linter.unusedVariables false
open Go
set_option maxRecDepth 100000
theorem aep : ∀ kr : Nat, (∀ (n_1 : za) (R : Bool), kD kr n_1 = some R → PC Tryd.prog 93 [.agg [.str n_1.Kind, .str n_1.Text, .list 1 (n_1.Marks.map PV.str), .list 2 (n_1.zu.map zg.pv), .list 5 (n_1.Kids.map za.pv)]] (.bool R)) := by
  intro kr
  induction kr with
  | zero => exact (by intro n_1 R hh; rw [kD] at hh; cases hh)
  | succ kr ih =>
    have ih_node_formed := ih
    clear ih
    intro n_1 R hh
    rw [kD] at hh
    refine aa9 rfl ?_
    refine zb fun K kk hK => ?_
    simp only [go_sem]
    refine hK _ _ fun nx => ?_; clear hK K; try clear kk
    refine zk ?_
    obtain ⟨xL, h1, hh⟩ := ze hh
    refine zb fun K kk hK => ?_
    simp only [go_sem]
    refine zf (wH _ _ h1) (by (try simp only [go_sem]) <;> exact wkl) (by rfl) (by rfl) ?_
    simp only [go_sem]
    refine hK _ _ fun nx => ?_; clear hK K; try clear kk
    by_cases h2 : (xL) = true
    · rw [if_pos h2] at hh
      refine zm (by first | exact congrArg PV.bool h2 | rfl) ?_
      by_cases h3 : (!(n_1.Text == ([] : Str))) = true
      · rw [if_pos h3] at hh
        obtain ⟨afo, h4, hh⟩ := ze hh
        by_cases h5 : (afo) = true
        · rw [if_pos h5] at hh
          obtain ⟨alu, h6, hh⟩ := ze hh
          by_cases h7 : (alu) = true
          · rw [if_pos h7] at hh
            refine zb fun K kk hK => ?_
            simp only [go_sem, h3, h5, h7]
            (repeat refine sd ?_)
            refine zf (kz _ _ h4) (by (try simp only [go_sem, h3, h5, h7]) <;> exact wkl) (by rfl) (by rfl) ?_
            simp only [go_sem, h3, h5, h7]
            (repeat refine sd ?_)
            refine zf (Jo _ _ h6) (by (try simp only [go_sem, h3, h5, h7]) <;> exact wkl) (by rfl) (by rfl) ?_
            simp only [go_sem, h3, h5, h7]
            (repeat refine sd ?_)
            refine hK _ _ fun nx => ?_; clear hK K; try clear kk
            refine zi ?_; refine nmx ?_
            obtain hR := Option.some.inj hh
            subst hR
            exact zy
          · rw [if_neg h7] at hh
            replace h7 := Bool.eq_false_iff.mpr h7
            refine zb fun K kk hK => ?_
            simp only [go_sem, h3, h5, h7]
            (repeat refine sd ?_)
            refine zf (kz _ _ h4) (by (try simp only [go_sem, h3, h5, h7]) <;> exact wkl) (by rfl) (by rfl) ?_
            simp only [go_sem, h3, h5, h7]
            (repeat refine sd ?_)
            refine zf (Jo _ _ h6) (by (try simp only [go_sem, h3, h5, h7]) <;> exact wkl) (by rfl) (by rfl) ?_
            simp only [go_sem, h3, h5, h7]
            (repeat refine sd ?_)
            refine hK _ _ fun nx => ?_; clear hK K; try clear kk
            refine zi ?_; refine nmx ?_
            obtain hR := Option.some.inj hh
            subst hR
            exact zy
        · rw [if_neg h5] at hh
          replace h5 := Bool.eq_false_iff.mpr h5
          refine zb fun K kk hK => ?_
          simp only [go_sem, h3, h5]
          (repeat refine sd ?_)
          refine zf (kz _ _ h4) (by (try simp only [go_sem, h3, h5]) <;> exact wkl) (by rfl) (by rfl) ?_
          simp only [go_sem, h3, h5]
          (repeat refine sd ?_)
          refine hK _ _ fun nx => ?_; clear hK K; try clear kk
          refine zi ?_; refine nmx ?_
          obtain hR := Option.some.inj hh
          subst hR
          exact zy
      · rw [if_neg h3] at hh
        replace h3 := Bool.eq_false_iff.mpr h3
        refine zb fun K kk hK => ?_
        simp only [go_sem, h3]
        (repeat refine sd ?_)
        refine hK _ _ fun nx => ?_; clear hK K; try clear kk
        refine zi ?_; refine nmx ?_
        obtain hR := Option.some.inj hh
        subst hR
        exact zy
    · rw [if_neg h2] at hh
      replace h2 := Bool.eq_false_iff.mpr h2
      refine zh (by first | exact congrArg PV.bool h2 | rfl) ?_
      refine zx ?_; refine nmx ?_
      refine zb fun K kk hK => ?_
      simp only [go_sem]
      refine hK _ _ fun nx => ?_; clear hK K; try clear kk
      refine zk ?_
      refine zb fun K kk hK => ?_
      simp only [go_sem]
      refine hK _ _ fun nx => ?_; clear hK K; try clear kk
      obtain ⟨e0, f0, hh⟩ := ze hh
      obtain ⟨hlen0, f0⟩ := zY f0
      refine qz (wZ (fun s => ∃ V4, .inr V4 = e0 ∧ ∃ (aki : Int) (ath : Bool) (nx : Nat) (g1 : Nat) (g3 : Nat), s = ⟨[(1, .box 1 g1 0), (3, .row 3 g3 V4.length), (34, .list 2 (n_1.zu.map zg.pv)), (35, .int .i64 (n_1.zu.length : Int)), (36, .int .i64 aki), (37, .bool ath)], [(1, g1, .var 28 [.str n_1.Kind, .str n_1.Text, .list 1 (n_1.Marks.map PV.str), .list 2 (n_1.zu.map zg.pv), .list 5 (n_1.Kids.map za.pv)]), (3, g3, .row false 1 (V4.map PV.str))], nx⟩))
        (fun i s => False)
        (fun s => ∃ aeN, .inl aeN = e0 ∧ zQ Tryd.prog [.tmp 2] (.bool aeN) [] .ret s) ?_ ?_ ?_ ?_
      · refine zC ?_
        refine qp fun I hI => ?_
        have key : ∀ (suf pre : List zg) (v_8 : Int) (W9 : (List Str)), n_1.zu = pre ++ suf → v_8 = (pre.length : Int) → ve suf v_8 W9 = some e0 → ∀ (nx : Nat) (g1 : Nat) (g3 : Nat), I ⟨[(1, .box 1 g1 0), (3, .row 3 g3 W9.length), (34, .list 2 (n_1.zu.map zg.pv)), (35, .int .i64 (n_1.zu.length : Int)), (36, .int .i64 v_8)], [(1, g1, .var 28 [.str n_1.Kind, .str n_1.Text, .list 1 (n_1.Marks.map PV.str), .list 2 (n_1.zu.map zg.pv), .list 5 (n_1.Kids.map za.pv)]), (3, g3, .row false 1 (W9.map PV.str))], nx⟩ := by
          intro suf
          induction suf with
          | nil =>
            intro pre v_8 W9 hsplit hidx hh nx g1 g3
            rw [ve] at hh
            refine hI _ ?_
            have h18 := walk_nil hsplit hidx
            refine zb fun K kk hK => ?_
            simp only [go_sem]
            refine hK _ _ fun nx => ?_; clear hK K; try clear kk
            refine zk ?_
            refine zh (by first | exact congrArg PV.bool h18 | rfl) ?_
            refine qa ?_; refine nmx ?_
            refine kF ?_
            refine zH ?_
            refine ⟨_, (Option.some.inj hh), ?_⟩
            first | exact ⟨_, _, _, _, _, rfl⟩ | (simp only [pvE, lsE, zn]; exact ⟨_, _, _, _, _, rfl⟩) | (simp only [pvE, lsE, zn, h18, h2]; exact ⟨_, _, _, _, _, rfl⟩)
          | cons aqK suf ih =>
            intro pre v_8 W9 hsplit hidx hh nx g1 g3
            rw [ve] at hh
            refine hI _ ?_
            obtain ⟨hl0a, hl0b, hl0d, hl0w, h18⟩ := qF (f := zg.pv) hsplit hidx hlen0
            refine zb fun K kk hK => ?_
            simp only [go_sem]
            refine hK _ _ fun nx => ?_; clear hK K; try clear kk
            refine zk ?_
            refine zm (by first | exact congrArg PV.bool h18 | rfl) ?_
            refine zx ?_; refine nmx ?_
            refine zk ?_
            refine zC ?_
            refine zb fun K kk hK => ?_
            simp only [go_sem, hl0a, hl0b, hl0d, hl0w]
            refine hK _ _ fun nx => ?_; clear hK K; try clear kk
            refine zk ?_
            obtain ⟨afK, h19, hh⟩ := ze hh
            refine zb fun K kk hK => ?_
            simp only [go_sem, hl0a, hl0b, hl0d, hl0w]
            refine zf (Vr _ _ h19) (by (try simp only [go_sem, hl0a, hl0b, hl0d, hl0w]) <;> exact wkl) (by rfl) (by rfl) ?_
            simp only [go_sem, hl0a, hl0b, hl0d, hl0w]
            refine hK _ _ fun nx => ?_; clear hK K; try clear kk
            by_cases h20 : (!afK) = true
            · rw [if_pos h20] at hh
              refine zm (by first | exact congrArg PV.bool h20 | rfl) ?_
              refine zb fun K kk hK => ?_
              simp only [go_sem, hl0a, hl0b, hl0d, hl0w]
              refine hK _ _ fun nx => ?_; clear hK K; try clear kk
              refine zi ?_; refine nmx ?_
              refine Z8 ⟨_, (Option.some.inj hh), ?_⟩
              exact zy
            · rw [if_neg h20] at hh
              replace h20 := Bool.eq_false_iff.mpr h20
              refine zh (by first | exact congrArg PV.bool h20 | rfl) ?_
              refine zx ?_; refine nmx ?_
              obtain ⟨atD, h21, hh⟩ := ze hh
              obtain ⟨h21a, h21c⟩ := zV h21
              have h21d := qE (f := PV.str) h21c
              have h21e := qH h21c
              try simp only [List.length_cons, List.length_nil, Nat.zero_add, Nat.reduceAdd] at h21a h21e
              try simp only [h21e] at h21a
              try simp only [List.map_cons, List.map_nil, List.nil_append, List.append_nil, List.cons_append, List.singleton_append, zn, pvE] at h21d
              refine zq fun K kk hK => ?_
              simp only [go_sem, h21a, h21d, h21e, hl0a, hl0b, hl0d, hl0w]
              (repeat refine sd ?_)
              refine hK _ _ fun nx => ?_; clear hK K; try clear kk
              refine nmx ?_
              refine zq fun K kk hK => ?_
              simp only [go_sem, hl0a, hl0b, hl0d, hl0w]
              refine hK _ _ fun nx => ?_; clear hK K; try clear kk
              refine nmx ?_
              have ih' := ih (pre ++ [aqK]) (v_8 + 1) _ (by rw [hsplit]; simp) (by simp [hidx]) hh nx
              refine zH ?_
              first | exact ih' _ _ | (simp only [pvE, lsE, zn, h21e] at ih' ⊢; exact ih' _ _) | (simp only [pvE, lsE, zn, h21e, h18, h2, h20] at ih' ⊢; exact ih' _ _)
        exact key n_1.zu [] _ _ rfl rfl f0 _ _ _
      · rintro s ⟨t, hless, V4, rfl, aki, ath, nx, g1, g3, rfl⟩
        try dsimp only at hh
        refine nmy ?_
        first | (refine wu hless ?_; try refine ko ?_) | refine qG hless ?_ | refine qI hless ?_
        refine zk ?_
        obtain ⟨aiY, h22, hh⟩ := ze hh
        by_cases h23 : (!aiY) = true
        · rw [if_pos h23] at hh
          refine zb fun K kk hK => ?_
          simp only [go_sem, h23]
          (repeat refine sd ?_)
          refine zf (qL _ _ h22) (by (try simp only [go_sem, h23]) <;> exact wkl) (by rfl) (by rfl) ?_
          simp only [go_sem, h23]
          (repeat refine sd ?_)
          refine hK _ _ fun nx => ?_; clear hK K; try clear kk
          refine zm rfl ?_
          refine zb fun K kk hK => ?_
          simp only [go_sem]
          refine hK _ _ fun nx => ?_; clear hK K; try clear kk
          refine zi ?_; refine nmx ?_
          obtain hR := Option.some.inj hh
          subst hR
          exact zy
        · rw [if_neg h23] at hh
          replace h23 := Bool.eq_false_iff.mpr h23
          by_cases h24 : (!(n_1.Text == ([] : Str))) = true
          · rw [if_pos h24] at hh
            refine zb fun K kk hK => ?_
            simp only [go_sem, h23, h24]
            (repeat refine sd ?_)
            refine zf (qL _ _ h22) (by (try simp only [go_sem, h23, h24]) <;> exact wkl) (by rfl) (by rfl) ?_
            simp only [go_sem, h23, h24]
            (repeat refine sd ?_)
            refine hK _ _ fun nx => ?_; clear hK K; try clear kk
            refine zm rfl ?_
            refine zb fun K kk hK => ?_
            simp only [go_sem]
            refine hK _ _ fun nx => ?_; clear hK K; try clear kk
            refine zi ?_; refine nmx ?_
            obtain hR := Option.some.inj hh
            subst hR
            exact zy
          · rw [if_neg h24] at hh
            replace h24 := Bool.eq_false_iff.mpr h24
            by_cases h25 : (decide ((n_1.Marks.length : Int) > (0 : Int))) = true
            · rw [if_pos h25] at hh
              refine zb fun K kk hK => ?_
              simp only [go_sem, h23, h24, h25, of_decide_eq_true h25]
              (repeat refine sd ?_)
              refine zf (qL _ _ h22) (by (try simp only [go_sem, h23, h24, h25, of_decide_eq_true h25]) <;> exact wkl) (by rfl) (by rfl) ?_
              simp only [go_sem, h23, h24, h25, of_decide_eq_true h25]
              (repeat refine sd ?_)
              refine hK _ _ fun nx => ?_; clear hK K; try clear kk
              refine zm rfl ?_
              refine zb fun K kk hK => ?_
              simp only [go_sem]
              refine hK _ _ fun nx => ?_; clear hK K; try clear kk
              refine zi ?_; refine nmx ?_
              obtain hR := Option.some.inj hh
              subst hR
              exact zy
            · rw [if_neg h25] at hh
              replace h25 := Bool.eq_false_iff.mpr h25
              obtain ⟨aib, h26, hh⟩ := ze hh
              refine zb fun K kk hK => ?_
              simp only [go_sem, h23, h24, h25, of_decide_eq_false h25]
              (repeat refine sd ?_)
              refine zf (qL _ _ h22) (by (try simp only [go_sem, h23, h24, h25, of_decide_eq_false h25]) <;> exact wkl) (by rfl) (by rfl) ?_
              simp only [go_sem, h23, h24, h25, of_decide_eq_false h25]
              (repeat refine sd ?_)
              refine zf (Jo _ _ h26) (by (try simp only [go_sem, h23, h24, h25, of_decide_eq_false h25]) <;> exact wkl) (by rfl) (by rfl) ?_
              simp only [go_sem, h23, h24, h25, of_decide_eq_false h25]
              (repeat refine sd ?_)
              refine hK _ _ fun nx => ?_; clear hK K; try clear kk
              by_cases h27 : (!aib) = true
              · rw [if_pos h27] at hh
                refine zm (by first | exact congrArg PV.bool h27 | rfl) ?_
                refine zb fun K kk hK => ?_
                simp only [go_sem]
                refine hK _ _ fun nx => ?_; clear hK K; try clear kk
                refine zi ?_; refine nmx ?_
                obtain hR := Option.some.inj hh
                subst hR
                exact zy
              · rw [if_neg h27] at hh
                replace h27 := Bool.eq_false_iff.mpr h27
                refine zh (by first | exact congrArg PV.bool h27 | rfl) ?_
                refine zx ?_; refine nmx ?_
                refine zk ?_
                refine zb fun K kk hK => ?_
                simp only [go_sem]
                refine hK _ _ fun nx => ?_; clear hK K; try clear kk
                obtain ⟨e1, f1, hh⟩ := ze hh
                obtain ⟨hlen1, f1⟩ := zY f1
                refine qz (wZ (fun s => .inr () = e1 ∧ ∃ (atw : Int) (as4 : Bool) (nx : Nat) (g1 : Nat), s = ⟨[(1, .box 1 g1 0), (71, .list 5 (n_1.Kids.map za.pv)), (72, .int .i64 (n_1.Kids.length : Int)), (73, .int .i64 atw), (74, .bool as4)], [(1, g1, .var 28 [.str n_1.Kind, .str n_1.Text, .list 1 (n_1.Marks.map PV.str), .list 2 (n_1.zu.map zg.pv), .list 5 (n_1.Kids.map za.pv)])], nx⟩))
                  (fun i s => False)
                  (fun s => ∃ agr, .inl agr = e1 ∧ zQ Tryd.prog [.tmp 2] (.bool agr) [] .ret s) ?_ ?_ ?_ ?_
                · refine zC ?_
                  refine qp fun I hI => ?_
                  have key : ∀ (suf pre : List za) (Xr : Int), n_1.Kids = pre ++ suf → Xr = (pre.length : Int) → w9 n_1 (kD kr) suf Xr = some e1 → ∀ (nx : Nat) (g1 : Nat), I ⟨[(1, .box 1 g1 0), (71, .list 5 (n_1.Kids.map za.pv)), (72, .int .i64 (n_1.Kids.length : Int)), (73, .int .i64 Xr)], [(1, g1, .var 28 [.str n_1.Kind, .str n_1.Text, .list 1 (n_1.Marks.map PV.str), .list 2 (n_1.zu.map zg.pv), .list 5 (n_1.Kids.map za.pv)])], nx⟩ := by
                    intro suf
                    induction suf with
                    | nil =>
                      intro pre Xr hsplit hidx hh nx g1
                      rw [w9] at hh
                      refine hI _ ?_
                      have h44 := walk_nil hsplit hidx
                      refine zb fun K kk hK => ?_
                      simp only [go_sem]
                      refine hK _ _ fun nx => ?_; clear hK K; try clear kk
                      refine zk ?_
                      refine zh (by first | exact congrArg PV.bool h44 | rfl) ?_
                      refine qa ?_; refine nmx ?_
                      refine kF ?_
                      refine zH ?_
                      refine ⟨(Option.some.inj hh), ?_⟩
                      first | exact ⟨_, _, _, _, rfl⟩ | (simp only [pvE, lsE, zn]; exact ⟨_, _, _, _, rfl⟩) | (simp only [pvE, lsE, zn, h2, h23, h24, h25, h27, h44]; exact ⟨_, _, _, _, rfl⟩)
                    | cons aoI suf ih =>
                      intro pre Xr hsplit hidx hh nx g1
                      rw [w9] at hh
                      refine hI _ ?_
                      obtain ⟨hl1a, hl1b, hl1d, hl1w, h44⟩ := qF (f := za.pv) hsplit hidx hlen1
                      refine zb fun K kk hK => ?_
                      simp only [go_sem]
                      refine hK _ _ fun nx => ?_; clear hK K; try clear kk
                      refine zk ?_
                      refine zm (by first | exact congrArg PV.bool h44 | rfl) ?_
                      refine zx ?_; refine nmx ?_
                      refine zk ?_
                      refine zC ?_
                      refine zb fun K kk hK => ?_
                      simp only [go_sem, hl1a, hl1b, hl1d, hl1w]
                      refine hK _ _ fun nx => ?_; clear hK K; try clear kk
                      obtain ⟨acA, h45, hh⟩ := ze hh
                      by_cases h46 : (!acA) = true
                      · rw [if_pos h46] at hh
                        refine zb fun K kk hK => ?_
                        simp only [go_sem, h46, hl1a, hl1b, hl1d, hl1w]
                        (repeat refine sd ?_)
                        refine zf (ih_node_formed _ _ h45) (by (try simp only [go_sem, h46, hl1a, hl1b, hl1d, hl1w]) <;> exact wkl) (by rfl) (by rfl) ?_
                        simp only [go_sem, h46, hl1a, hl1b, hl1d, hl1w]
                        (repeat refine sd ?_)
                        refine hK _ _ fun nx => ?_; clear hK K; try clear kk
                        refine zm rfl ?_
                        refine zb fun K kk hK => ?_
                        simp only [go_sem, hl1a, hl1b, hl1d, hl1w]
                        refine hK _ _ fun nx => ?_; clear hK K; try clear kk
                        refine zi ?_; refine nmx ?_
                        refine Z8 ⟨_, (Option.some.inj hh), ?_⟩
                        exact zy
                      · rw [if_neg h46] at hh
                        replace h46 := Bool.eq_false_iff.mpr h46
                        by_cases h47 : (decide (Xr > (0 : Int))) = true
                        · rw [if_pos h47] at hh
                          obtain ⟨asW, h48, hh⟩ := ze hh
                          obtain ⟨h48a, h48b, h48c⟩ := rd_some h48
                          have h48d := vz (f := za.pv) h48c
                          have h48f := wY (f := za.pv) h48c
                          try simp only [Int.toNat_natCast, Int.reduceToNat] at h48d h48f
                          obtain ⟨afp, h49, hh⟩ := ze hh
                          refine zb fun K kk hK => ?_
                          simp only [go_sem, h46, h47, of_decide_eq_true h47, h48a, h48b, h48d, h48f.1, h48f.2, hl1a, hl1b, hl1d, hl1w]
                          (repeat refine sd ?_)
                          refine zf (ih_node_formed _ _ h45) (by (try simp only [go_sem, h46, h47, of_decide_eq_true h47, h48a, h48b, h48d, h48f.1, h48f.2, hl1a, hl1b, hl1d, hl1w]) <;> exact wkl) (by rfl) (by rfl) ?_
                          simp only [go_sem, h46, h47, of_decide_eq_true h47, h48a, h48b, h48d, h48f.1, h48f.2, hl1a, hl1b, hl1d, hl1w]
                          (repeat refine sd ?_)
                          refine zf (Vt _ _ _ h49) (by (try simp only [go_sem, h46, h47, of_decide_eq_true h47, h48a, h48b, h48d, h48f.1, h48f.2, hl1a, hl1b, hl1d, hl1w]) <;> exact wkl) (by rfl) (by rfl) ?_
                          simp only [go_sem, h46, h47, of_decide_eq_true h47, h48a, h48b, h48d, h48f.1, h48f.2, hl1a, hl1b, hl1d, hl1w]
                          (repeat refine sd ?_)
                          refine hK _ _ fun nx => ?_; clear hK K; try clear kk
                          by_cases h50 : (afp) = true
                          · rw [if_pos h50] at hh
                            refine zm (by first | exact congrArg PV.bool h50 | rfl) ?_
                            refine zb fun K kk hK => ?_
                            simp only [go_sem, hl1a, hl1b, hl1d, hl1w]
                            refine hK _ _ fun nx => ?_; clear hK K; try clear kk
                            refine zi ?_; refine nmx ?_
                            refine Z8 ⟨_, (Option.some.inj hh), ?_⟩
                            exact zy
                          · rw [if_neg h50] at hh
                            replace h50 := Bool.eq_false_iff.mpr h50
                            refine zh (by first | exact congrArg PV.bool h50 | rfl) ?_
                            refine zx ?_; refine nmx ?_
                            refine zq fun K kk hK => ?_
                            simp only [go_sem, hl1a, hl1b, hl1d, hl1w]
                            refine hK _ _ fun nx => ?_; clear hK K; try clear kk
                            refine nmx ?_
                            have ih' := ih (pre ++ [aoI]) (Xr + 1) (by rw [hsplit]; simp) (by simp [hidx]) hh nx
                            refine zH ?_
                            first | exact ih' _ | (simp only [pvE, lsE, zn] at ih' ⊢; exact ih' _) | (simp only [pvE, lsE, zn, h2, h23, h24, h25, h27, h44, h46, h47, h50] at ih' ⊢; exact ih' _)
                        · rw [if_neg h47] at hh
                          replace h47 := Bool.eq_false_iff.mpr h47
                          refine zb fun K kk hK => ?_
                          simp only [go_sem, h46, h47, of_decide_eq_false h47, hl1a, hl1b, hl1d, hl1w]
                          (repeat refine sd ?_)
                          refine zf (ih_node_formed _ _ h45) (by (try simp only [go_sem, h46, h47, of_decide_eq_false h47, hl1a, hl1b, hl1d, hl1w]) <;> exact wkl) (by rfl) (by rfl) ?_
                          simp only [go_sem, h46, h47, of_decide_eq_false h47, hl1a, hl1b, hl1d, hl1w]
                          (repeat refine sd ?_)
                          refine hK _ _ fun nx => ?_; clear hK K; try clear kk
                          refine zh rfl ?_
                          refine zx ?_; refine nmx ?_
                          refine zq fun K kk hK => ?_
                          simp only [go_sem, hl1a, hl1b, hl1d, hl1w]
                          refine hK _ _ fun nx => ?_; clear hK K; try clear kk
                          refine nmx ?_
                          have ih' := ih (pre ++ [aoI]) (Xr + 1) (by rw [hsplit]; simp) (by simp [hidx]) hh nx
                          refine zH ?_
                          first | exact ih' _ | (simp only [pvE, lsE, zn] at ih' ⊢; exact ih' _) | (simp only [pvE, lsE, zn, h2, h23, h24, h25, h27, h44, h46, h47] at ih' ⊢; exact ih' _)
                  exact key n_1.Kids [] _ rfl rfl f1 _ _
                · rintro s ⟨t, hless, rfl, atw, as4, nx, g1, rfl⟩
                  try dsimp only at hh
                  refine nmy ?_
                  first | (refine wu hless ?_; try refine ko ?_) | refine qG hless ?_ | refine qI hless ?_
                  refine zb fun K kk hK => ?_
                  simp only [go_sem]
                  refine hK _ _ fun nx => ?_; clear hK K; try clear kk
                  refine zi ?_; refine nmx ?_
                  obtain hR := Option.some.inj hh
                  subst hR
                  exact zy
                · intro i s h; exact h.elim
                · rintro s ⟨agr, rfl, hb⟩
                  try dsimp only at hh
                  obtain hR := Option.some.inj hh
                  subst hR
                  refine nmx ?_
                  exact hb
      · intro i s h; exact h.elim
      · rintro s ⟨aeN, rfl, hb⟩
        try dsimp only at hh
        obtain hR := Option.some.inj hh
        subst hR
        refine nmx ?_
        exact hb
theorem afO (n_1 : za) (R : Bool) (hh : Q0 n_1 = some R) : PC Tryd.prog 93 [.agg [.str n_1.Kind, .str n_1.Text, .list 1 (n_1.Marks.map PV.str), .list 2 (n_1.zu.map zg.pv), .list 5 (n_1.Kids.map za.pv)]] (.bool R) := by
 rw [Q0] at hh
 obtain ⟨kr, hh⟩ := xQ hh
 exact (aep kr) _ _ hh
theorem afd : ∀ kr : Nat, (∀ (n_1 : za) (R : Int), kX kr n_1 = some R → PC Tryd.prog 94 [.agg [.str n_1.Kind, .str n_1.Text, .list 1 (n_1.Marks.map PV.str), .list 2 (n_1.zu.map zg.pv), .list 5 (n_1.Kids.map za.pv)]] (.int .i64 R)) := by
  intro kr
  induction kr with
  | zero => exact (by intro n_1 R hh; rw [kX] at hh; cases hh)
  | succ kr ih =>
    have ih_node_Depth := ih
    clear ih
    intro n_1 R hh
    rw [kX] at hh
    refine acU rfl ?_
    refine zb fun K kk hK => ?_
    simp only [go_sem]
    refine hK _ _ fun nx => ?_; clear hK K; try clear kk
    refine zk ?_
    obtain ⟨xL, h1, hh⟩ := ze hh
    refine zb fun K kk hK => ?_
    simp only [go_sem]
    refine zf (wH _ _ h1) (by (try simp only [go_sem]) <;> exact wkl) (by rfl) (by rfl) ?_
    simp only [go_sem]
    refine hK _ _ fun nx => ?_; clear hK K; try clear kk
    by_cases h2 : (xL) = true
    · rw [if_pos h2] at hh
      refine zm (by first | exact congrArg PV.bool h2 | rfl) ?_
      refine zb fun K kk hK => ?_
      simp only [go_sem]
      refine hK _ _ fun nx => ?_; clear hK K; try clear kk
      refine zi ?_; refine nmx ?_
      obtain hR := Option.some.inj hh
      subst hR
      exact zy
    · rw [if_neg h2] at hh
      replace h2 := Bool.eq_false_iff.mpr h2
      refine zh (by first | exact congrArg PV.bool h2 | rfl) ?_
      refine zx ?_; refine nmx ?_
      refine zb fun K kk hK => ?_
      simp only [go_sem]
      refine hK _ _ fun nx => ?_; clear hK K; try clear kk
      refine zk ?_
      refine zb fun K kk hK => ?_
      simp only [go_sem]
      refine hK _ _ fun nx => ?_; clear hK K; try clear kk
      obtain ⟨e0, f0, hh⟩ := ze hh
      obtain ⟨hlen0, f0⟩ := zY f0
      refine qz (wZ (fun s => ∃ Kt, Kt = e0 ∧ ∃ (Wj : Int) (JY : Bool) (nx : Nat), s = ⟨[(3, .int .i64 Kt), (9, .list 5 (n_1.Kids.map za.pv)), (10, .int .i64 (n_1.Kids.length : Int)), (11, .int .i64 Wj), (12, .bool JY)], [], nx⟩))
        (fun i s => False)
        (fun s => False) ?_ ?_ ?_ ?_
      · refine zC ?_
        refine qp fun I hI => ?_
        have key : ∀ (suf pre : List za) (v_6 : Int) (yg : Int), n_1.Kids = pre ++ suf → v_6 = (pre.length : Int) → kY (kX kr) suf v_6 yg = some e0 → ∀ (nx : Nat), I ⟨[(3, .int .i64 yg), (9, .list 5 (n_1.Kids.map za.pv)), (10, .int .i64 (n_1.Kids.length : Int)), (11, .int .i64 v_6)], [], nx⟩ := by
          intro suf
          induction suf with
          | nil =>
            intro pre v_6 yg hsplit hidx hh nx
            rw [kY] at hh
            refine hI _ ?_
            have h9 := walk_nil hsplit hidx
            refine zb fun K kk hK => ?_
            simp only [go_sem]
            refine hK _ _ fun nx => ?_; clear hK K; try clear kk
            refine zk ?_
            refine zh (by first | exact congrArg PV.bool h9 | rfl) ?_
            refine qa ?_; refine nmx ?_
            refine kF ?_
            refine zH ?_
            refine ⟨_, (Option.some.inj hh), ?_⟩
            first | exact ⟨_, _, _, rfl⟩ | (simp only [pvE, lsE, zn]; exact ⟨_, _, _, rfl⟩) | (simp only [pvE, lsE, zn, h2, h9]; exact ⟨_, _, _, rfl⟩)
          | cons y_9 suf ih =>
            intro pre v_6 yg hsplit hidx hh nx
            rw [kY] at hh
            refine hI _ ?_
            obtain ⟨hl0a, hl0b, hl0d, hl0w, h9⟩ := qF (f := za.pv) hsplit hidx hlen0
            refine zb fun K kk hK => ?_
            simp only [go_sem]
            refine hK _ _ fun nx => ?_; clear hK K; try clear kk
            refine zk ?_
            refine zm (by first | exact congrArg PV.bool h9 | rfl) ?_
            refine zx ?_; refine nmx ?_
            refine zk ?_
            refine zC ?_
            refine zb fun K kk hK => ?_
            simp only [go_sem, hl0a, hl0b, hl0d, hl0w]
            refine hK _ _ fun nx => ?_; clear hK K; try clear kk
            obtain ⟨ae6, h10, hh⟩ := ze hh
            refine zq fun K kk hK => ?_
            simp only [go_sem, hl0a, hl0b, hl0d, hl0w]
            refine zf (ih_node_Depth _ _ h10) (by (try simp only [go_sem, hl0a, hl0b, hl0d, hl0w]) <;> exact wkl) (by rfl) (by rfl) ?_
            simp only [go_sem, hl0a, hl0b, hl0d, hl0w]
            refine hK _ _ fun nx => ?_; clear hK K; try clear kk
            refine nmx ?_
            refine zq fun K kk hK => ?_
            simp only [go_sem, hl0a, hl0b, hl0d, hl0w]
            refine hK _ _ fun nx => ?_; clear hK K; try clear kk
            refine nmx ?_
            have ih' := ih (pre ++ [y_9]) (v_6 + 1) _ (by rw [hsplit]; simp) (by simp [hidx]) hh nx
            refine zH ?_
            first | exact ih' | (simp only [pvE, lsE, zn] at ih' ⊢; exact ih') | (simp only [pvE, lsE, zn, h2, h9] at ih' ⊢; exact ih')
        exact key n_1.Kids [] _ _ rfl rfl f0 _
      · rintro s ⟨t, hless, Kt, rfl, Wj, JY, nx, rfl⟩
        try dsimp only at hh
        refine nmy ?_
        first | (refine wu hless ?_; try refine ko ?_) | refine qG hless ?_ | refine qI hless ?_
        refine zb fun K kk hK => ?_
        simp only [go_sem]
        refine hK _ _ fun nx => ?_; clear hK K; try clear kk
        refine zi ?_; refine nmx ?_
        obtain hR := Option.some.inj hh
        subst hR
        exact zy
      · intro i s h; exact h.elim
      · intro s h; exact h.elim
theorem agK (n_1 : za) (R : Int) (hh : Kq n_1 = some R) : PC Tryd.prog 94 [.agg [.str n_1.Kind, .str n_1.Text, .list 1 (n_1.Marks.map PV.str), .list 2 (n_1.zu.map zg.pv), .list 5 (n_1.Kids.map za.pv)]] (.int .i64 R) := by
 rw [Kq] at hh
 obtain ⟨kr, hh⟩ := xQ hh
 exact (afd kr) _ _ hh
theorem QU (n_1 : za) (R : Int) (hh : xS n_1 = some R) : PC Tryd.prog 64 [.agg [.str n_1.Kind, .str n_1.Text, .list 1 (n_1.Marks.map PV.str), .list 2 (n_1.zu.map zg.pv), .list 5 (n_1.Kids.map za.pv)]] (.int .i64 R) := by
  rw [xS] at hh
  refine acR rfl ?_
  refine zb fun K kk hK => ?_
  simp only [go_sem]
  refine hK _ _ fun nx => ?_; clear hK K; try clear kk
  refine zk ?_
  refine zC ?_
  obtain ⟨af0, h1, hh⟩ := ze hh
  refine zb fun K kk hK => ?_
  simp only [go_sem]
  refine zf (afO _ _ h1) (by (try simp only [go_sem]) <;> exact wkl) (by rfl) (by rfl) ?_
  simp only [go_sem]
  refine hK _ _ fun nx => ?_; clear hK K; try clear kk
  by_cases h2 : (!af0) = true
  · rw [if_pos h2] at hh
    refine zm (by first | exact congrArg PV.bool h2 | rfl) ?_
    refine zb fun K kk hK => ?_
    simp only [go_sem]
    refine hK _ _ fun nx => ?_; clear hK K; try clear kk
    refine zi ?_; refine nmx ?_
    obtain hR := Option.some.inj hh
    subst hR
    exact zy
  · rw [if_neg h2] at hh
    replace h2 := Bool.eq_false_iff.mpr h2
    refine zh (by first | exact congrArg PV.bool h2 | rfl) ?_
    obtain ⟨aiK, h3, hh⟩ := ze hh
    refine zb fun K kk hK => ?_
    simp only [go_sem]
    refine zf (agK _ _ h3) (by (try simp only [go_sem]) <;> exact wkl) (by rfl) (by rfl) ?_
    simp only [go_sem]
    refine hK _ _ fun nx => ?_; clear hK K; try clear kk
    by_cases h4 : (decide (aiK > (40 : Int))) = true
    · rw [if_pos h4] at hh
      refine zm (by first | exact congrArg PV.bool h4 | rfl) ?_
      refine zb fun K kk hK => ?_
      simp only [go_sem]
      refine hK _ _ fun nx => ?_; clear hK K; try clear kk
      refine zi ?_; refine nmx ?_
      obtain hR := Option.some.inj hh
      subst hR
      exact zy
    · rw [if_neg h4] at hh
      replace h4 := Bool.eq_false_iff.mpr h4
      refine zh (by first | exact congrArg PV.bool h4 | rfl) ?_
      obtain ⟨amc, h5, hh⟩ := ze hh
      refine zb fun K kk hK => ?_
      simp only [go_sem]
      refine zf (ZW _ _ h5) (by (try simp only [go_sem]) <;> exact wkl) (by rfl) (by rfl) ?_
      simp only [go_sem]
      refine hK _ _ fun nx => ?_; clear hK K; try clear kk
      by_cases h6 : (decide (amc > (4000 : Int))) = true
      · rw [if_pos h6] at hh
        refine zm (by first | exact congrArg PV.bool h6 | rfl) ?_
        refine zb fun K kk hK => ?_
        simp only [go_sem]
        refine hK _ _ fun nx => ?_; clear hK K; try clear kk
        refine zi ?_; refine nmx ?_
        obtain hR := Option.some.inj hh
        subst hR
        exact zy
      · rw [if_neg h6] at hh
        replace h6 := Bool.eq_false_iff.mpr h6
        refine zh (by first | exact congrArg PV.bool h6 | rfl) ?_
        refine zx ?_; refine nmx ?_
        refine zb fun K kk hK => ?_
        simp only [go_sem]
        refine hK _ _ fun nx => ?_; clear hK K; try clear kk
        refine zi ?_; refine nmx ?_
        obtain hR := Option.some.inj hh
        subst hR
        exact zy
theorem Y0 (n_1 : za) (R : Bool) (hh : QE n_1 = some R) : PC Tryd.prog 36 [.agg [.str n_1.Kind, .str n_1.Text, .list 1 (n_1.Marks.map PV.str), .list 2 (n_1.zu.map zg.pv), .list 5 (n_1.Kids.map za.pv)]] (.bool R) := by
  rw [QE] at hh
  refine ac9 rfl ?_
  refine zb fun K kk hK => ?_
  simp only [go_sem]
  refine hK _ _ fun nx => ?_; clear hK K; try clear kk
  obtain ⟨amR, h1, hh⟩ := ze hh
  refine zb fun K kk hK => ?_
  simp only [go_sem]
  refine zf (QU _ _ h1) (by (try simp only [go_sem]) <;> exact wkl) (by rfl) (by rfl) ?_
  simp only [go_sem]
  refine hK _ _ fun nx => ?_; clear hK K; try clear kk
  refine zi ?_; refine nmx ?_
  obtain hR := Option.some.inj hh
  subst hR
  exact zy
theorem Vx (l : (List zg)) (R : (List zg)) (hh : xA l = some R) : PC Tryd.prog 70 [.list 2 (l.map zg.pv)] (.own 2 (R.map zg.pv)) := by
 rw [xA] at hh
 obtain ⟨ha, hb⟩ := zV hh
 rw [List.nil_append] at hb
 subst hb
 try simp only [List.length_nil, Nat.zero_add] at ha
 refine Kb rfl ?_
 refine zb fun K kk hK => ?_
 simp only [go_sem]
 refine hK _ _ fun nx => ?_; clear hK K; try clear kk
 refine zb fun K kk hK => ?_
 simp only [go_sem]
 refine ⟨fun hnil => hK _ _ fun nx => ?_, hK _ _ fun nx => ?_⟩ <;> (clear hK K; try clear kk)
 ·have hl : l = [] := by simpa using hnil
  subst hl
  first | refine zm rfl ?_ | (refine zk ?_; refine zm rfl ?_)
  refine zb fun K kk hK => ?_
  simp only [go_sem]
  refine hK _ _ fun nx => ?_; clear hK K; try clear kk
  refine zi ?_; refine nmx ?_
  exact Xn rfl
 ·first | refine zh rfl ?_ | (refine zk ?_; refine zh rfl ?_)
  refine zx ?_; refine nmx ?_
  refine zb fun K kk hK => ?_
  simp only [go_sem, ha]
  refine hK _ _ fun nx => ?_; clear hK K; try clear kk
  refine zi ?_; refine nmx ?_
  exact Yf (by rfl) (by rfl) (by rfl) (by simp) (by rfl)
theorem Yo (l : (List Int)) (R : (List Int)) (hh : slices_Clone_int l = some R) : PC Tryd.prog 100 [.list 1 (l.map (PV.int .i64))] (.own 1 (R.map (PV.int .i64))) := by
 rw [slices_Clone_int] at hh
 obtain ⟨ha, hb⟩ := zV hh
 rw [List.nil_append] at hb
 subst hb
 try simp only [List.length_nil, Nat.zero_add] at ha
 refine Js rfl ?_
 refine zb fun K kk hK => ?_
 simp only [go_sem]
 refine hK _ _ fun nx => ?_; clear hK K; try clear kk
 refine zb fun K kk hK => ?_
 simp only [go_sem]
 refine ⟨fun hnil => hK _ _ fun nx => ?_, hK _ _ fun nx => ?_⟩ <;> (clear hK K; try clear kk)
 ·have hl : l = [] := by simpa using hnil
  subst hl
  first | refine zm rfl ?_ | (refine zk ?_; refine zm rfl ?_)
  refine zb fun K kk hK => ?_
  simp only [go_sem]
  refine hK _ _ fun nx => ?_; clear hK K; try clear kk
  refine zi ?_; refine nmx ?_
  exact Xn rfl
 ·first | refine zh rfl ?_ | (refine zk ?_; refine zh rfl ?_)
  refine zx ?_; refine nmx ?_
  refine zb fun K kk hK => ?_
  simp only [go_sem, ha]
  refine hK _ _ fun nx => ?_; clear hK K; try clear kk
  refine zi ?_; refine nmx ?_
  exact Yf (by rfl) (by rfl) (by rfl) (by simp) (by rfl)
theorem xO (n_1 : za) (qV : (List Int)) (R : (za × Int)) (hh : xK n_1 qV = some R) : PC Tryd.prog 75 [.agg [.str n_1.Kind, .str n_1.Text, .list 1 (n_1.Marks.map PV.str), .list 2 (n_1.zu.map zg.pv), .list 5 (n_1.Kids.map za.pv)], .list 1 (qV.map (PV.int .i64))] (.tup [.agg [.str R.1.Kind, .str R.1.Text, .list 1 (R.1.Marks.map PV.str), .list 2 (R.1.zu.map zg.pv), .list 5 (R.1.Kids.map za.pv)], .int .i64 R.2]) := by
  rw [xK] at hh
  refine ab7 rfl ?_
  refine zb fun K kk hK => ?_
  simp only [go_sem]
  refine hK _ _ fun nx => ?_; clear hK K; try clear kk
  refine zk ?_
  refine zb fun K kk hK => ?_
  simp only [go_sem]
  refine hK _ _ fun nx => ?_; clear hK K; try clear kk
  obtain ⟨e0, f0, hh⟩ := ze hh
  obtain ⟨hlen0, f0⟩ := zY f0
  refine qz (wZ (fun s => ∃ agq, .inr agq = e0 ∧ ∃ (Wj : Int) (JY : Bool) (nx : Nat) (g2 : Nat) (g4 : Nat), s = ⟨[(2, .box 2 g2 0), (4, .box 4 g4 0), (8, .list 1 (qV.map (PV.int .i64))), (9, .int .i64 (qV.length : Int)), (10, .int .i64 Wj), (11, .bool JY)], [(2, g2, .var 28 [.str agq.Kind, .str agq.Text, .list 1 (agq.Marks.map PV.str), .list 2 (agq.zu.map zg.pv), .list 5 (agq.Kids.map za.pv)]), (4, g4, .var 28 [.str ([] : Str), .str ([] : Str), .list 1 ([].map PV.str), .list 2 ([].map zg.pv), .list 5 ([].map za.pv)])], nx⟩))
    (fun i s => False)
    (fun s => ∃ VC, .inl VC = e0 ∧ zQ Tryd.prog [.cell 4 28, .tmp 5] (.tup [.agg [.str VC.1.Kind, .str VC.1.Text, .list 1 (VC.1.Marks.map PV.str), .list 2 (VC.1.zu.map zg.pv), .list 5 (VC.1.Kids.map za.pv)], .int .i64 VC.2]) [] .ret s) ?_ ?_ ?_ ?_
  · refine zC ?_
    refine qp fun I hI => ?_
    have key : ∀ (suf pre : List Int) (v_6 : Int) (n_5 : za), qV = pre ++ suf → v_6 = (pre.length : Int) → xI suf v_6 n_5 = some e0 → ∀ (nx : Nat) (g2 : Nat) (g4 : Nat), I ⟨[(2, .box 2 g2 0), (4, .box 4 g4 0), (8, .list 1 (qV.map (PV.int .i64))), (9, .int .i64 (qV.length : Int)), (10, .int .i64 v_6)], [(2, g2, .var 28 [.str n_5.Kind, .str n_5.Text, .list 1 (n_5.Marks.map PV.str), .list 2 (n_5.zu.map zg.pv), .list 5 (n_5.Kids.map za.pv)]), (4, g4, .var 28 [.str ([] : Str), .str ([] : Str), .list 1 ([].map PV.str), .list 2 ([].map zg.pv), .list 5 ([].map za.pv)])], nx⟩ := by
      intro suf
      induction suf with
      | nil =>
        intro pre v_6 n_5 hsplit hidx hh nx g2 g4
        rw [xI] at hh
        refine hI _ ?_
        have h13 := walk_nil hsplit hidx
        refine zb fun K kk hK => ?_
        simp only [go_sem]
        refine hK _ _ fun nx => ?_; clear hK K; try clear kk
        refine zk ?_
        refine zh (by first | exact congrArg PV.bool h13 | rfl) ?_
        refine qa ?_; refine nmx ?_
        refine kF ?_
        refine zH ?_
        refine ⟨_, (Option.some.inj hh), ?_⟩
        first | exact ⟨_, _, _, _, _, rfl⟩ | (simp only [pvE, lsE, zn]; exact ⟨_, _, _, _, _, rfl⟩) | (simp only [pvE, lsE, zn, h13]; exact ⟨_, _, _, _, _, rfl⟩)
      | cons y_9 suf ih =>
        intro pre v_6 n_5 hsplit hidx hh nx g2 g4
        rw [xI] at hh
        refine hI _ ?_
        obtain ⟨hl0a, hl0b, hl0d, hl0w, h13⟩ := qF (f := (PV.int .i64)) hsplit hidx hlen0
        refine zb fun K kk hK => ?_
        simp only [go_sem]
        refine hK _ _ fun nx => ?_; clear hK K; try clear kk
        refine zk ?_
        refine zm (by first | exact congrArg PV.bool h13 | rfl) ?_
        refine zx ?_; refine nmx ?_
        refine zk ?_
        refine zC ?_
        refine zb fun K kk hK => ?_
        simp only [go_sem, hl0a, hl0b, hl0d, hl0w]
        refine hK _ _ fun nx => ?_; clear hK K; try clear kk
        refine zk ?_
        by_cases h14 : (decide (y_9 < (0 : Int))) = true
        · rw [if_pos h14] at hh
          refine zb fun K kk hK => ?_
          simp only [go_sem, h14, of_decide_eq_true h14, hl0a, hl0b, hl0d, hl0w]
          (repeat refine sd ?_)
          refine hK _ _ fun nx => ?_; clear hK K; try clear kk
          refine zm rfl ?_
          refine zb fun K kk hK => ?_
          simp only [go_sem, hl0a, hl0b, hl0d, hl0w]
          refine hK _ _ fun nx => ?_; clear hK K; try clear kk
          refine zi ?_; refine nmx ?_
          refine Z8 ⟨_, (Option.some.inj hh), ?_⟩
          exact zy
        · rw [if_neg h14] at hh
          replace h14 := Bool.eq_false_iff.mpr h14
          by_cases h15 : (decide (y_9 ≥ (n_5.Kids.length : Int))) = true
          · rw [if_pos h15] at hh
            refine zb fun K kk hK => ?_
            simp only [go_sem, h14, of_decide_eq_false h14, h15, of_decide_eq_true h15, hl0a, hl0b, hl0d, hl0w]
            (repeat refine sd ?_)
            refine hK _ _ fun nx => ?_; clear hK K; try clear kk
            refine zm rfl ?_
            refine zb fun K kk hK => ?_
            simp only [go_sem, hl0a, hl0b, hl0d, hl0w]
            refine hK _ _ fun nx => ?_; clear hK K; try clear kk
            refine zi ?_; refine nmx ?_
            refine Z8 ⟨_, (Option.some.inj hh), ?_⟩
            exact zy
          · rw [if_neg h15] at hh
            replace h15 := Bool.eq_false_iff.mpr h15
            refine zb fun K kk hK => ?_
            simp only [go_sem, h14, of_decide_eq_false h14, h15, of_decide_eq_false h15, hl0a, hl0b, hl0d, hl0w]
            (repeat refine sd ?_)
            refine hK _ _ fun nx => ?_; clear hK K; try clear kk
            by_cases h16 : (n_5.Kind == ([116, 101, 120, 116] : Str)) = true
            · rw [if_pos h16] at hh
              refine zm (by first | exact congrArg PV.bool h16 | rfl) ?_
              refine zb fun K kk hK => ?_
              simp only [go_sem, hl0a, hl0b, hl0d, hl0w]
              refine hK _ _ fun nx => ?_; clear hK K; try clear kk
              refine zi ?_; refine nmx ?_
              refine Z8 ⟨_, (Option.some.inj hh), ?_⟩
              exact zy
            · rw [if_neg h16] at hh
              replace h16 := Bool.eq_false_iff.mpr h16
              refine zh (by first | exact congrArg PV.bool h16 | rfl) ?_
              refine zx ?_; refine nmx ?_
              obtain ⟨agC, h17, hh⟩ := ze hh
              obtain ⟨h17a, h17b, h17c⟩ := rd_some h17
              have h17d := vz (f := za.pv) h17c
              have h17f := wY (f := za.pv) h17c
              try simp only [Int.toNat_natCast, Int.reduceToNat] at h17d h17f
              refine zq fun K kk hK => ?_
              simp only [go_sem, h17a, h17b, h17d, h17f.1, h17f.2, hl0a, hl0b, hl0d, hl0w]
              (repeat refine sd ?_)
              refine hK _ _ fun nx => ?_; clear hK K; try clear kk
              refine nmx ?_
              refine zq fun K kk hK => ?_
              simp only [go_sem, hl0a, hl0b, hl0d, hl0w]
              refine hK _ _ fun nx => ?_; clear hK K; try clear kk
              refine nmx ?_
              have ih' := ih (pre ++ [y_9]) (v_6 + 1) _ (by rw [hsplit]; simp) (by simp [hidx]) hh nx
              refine zH ?_
              first | exact ih' _ _ | (simp only [pvE, lsE, zn] at ih' ⊢; exact ih' _ _) | (simp only [pvE, lsE, zn, h13, h14, h15, h16] at ih' ⊢; exact ih' _ _)
    exact key qV [] _ _ rfl rfl f0 _ _ _
  · rintro s ⟨t, hless, agq, rfl, Wj, JY, nx, g2, g4, rfl⟩
    try dsimp only at hh
    refine nmy ?_
    first | (refine wu hless ?_; try refine ko ?_) | refine qG hless ?_ | refine qI hless ?_
    refine zk ?_
    refine zb fun K kk hK => ?_
    simp only [go_sem]
    refine hK _ _ fun nx => ?_; clear hK K; try clear kk
    by_cases h18 : (agq.Kind == ([116, 101, 120, 116] : Str)) = true
    · rw [if_pos h18] at hh
      refine zm (by first | exact congrArg PV.bool h18 | rfl) ?_
      refine zb fun K kk hK => ?_
      simp only [go_sem]
      refine hK _ _ fun nx => ?_; clear hK K; try clear kk
      refine zi ?_; refine nmx ?_
      obtain hR := Option.some.inj hh
      subst hR
      exact zy
    · rw [if_neg h18] at hh
      replace h18 := Bool.eq_false_iff.mpr h18
      refine zh (by first | exact congrArg PV.bool h18 | rfl) ?_
      refine zx ?_; refine nmx ?_
      refine zb fun K kk hK => ?_
      simp only [go_sem]
      refine hK _ _ fun nx => ?_; clear hK K; try clear kk
      refine zi ?_; refine nmx ?_
      obtain hR := Option.some.inj hh
      subst hR
      exact zy
  · intro i s h; exact h.elim
  · rintro s ⟨VC, rfl, hb⟩
    try dsimp only at hh
    obtain hR := Option.some.inj hh
    subst hR
    refine nmx ?_
    exact hb
end Go.Proofs.YtclohbgnaopjfaaDoor
