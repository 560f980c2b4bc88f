/- Texts of the proof of stepThroughCard -/
import Derived.Test.YtclohbgnaopjfaaDoorAgC
import Derived.Test.YtclohbgnaopjfaaDoorAgF
import Derived.Test.YtclohbgnaopjfaaDoorAgK0
namespace Go.Proofs.YtclohbgnaopjfaaDoor
set_option linter.unusedSimpArgs false
set_option linter.unusedVariables false
open Go
set_option maxRecDepth 100000
theorem afe : ∀ kr : Nat, (∀ (n_1 : za) (R : Bool), kG kr n_1 = some R → PC Tryd.prog 93 [.agg [.str n_1.Kind, .str n_1.Text, .list 1 (n_1.Marks.map PV.str), .list 2 (n_1.zu.map zh.pv), .list 5 (n_1.Kids.map za.pv)]] (.bool R)) := by
  intro kr
  induction kr with
  | zero => exact (by intro n_1 R hh; rw [kG] at hh; cases hh)
  | succ kr ih =>
    have ih_node_formed := ih
    clear ih
    intro n_1 R hh
    rw [kG] at hh
    refine abN rfl ?_
    refine zb fun K kk hK => ?_
    simp only [go_sem]
    refine hK _ _ fun nx => ?_; clear hK K; try clear kk
    refine zm ?_
    obtain ⟨yn, h1, hh⟩ := ze hh
    refine zb fun K kk hK => ?_
    simp only [go_sem]
    refine zf (kv _ _ h1) (by (try simp only [go_sem]) <;> exact wkl) (by rfl) (by rfl) ?_
    simp only [go_sem]
    refine hK _ _ fun nx => ?_; clear hK K; try clear kk
    by_cases h2 : (yn) = true
    · rw [if_pos h2] at hh
      refine zn (by first | exact congrArg PV.bool h2 | rfl) ?_
      by_cases h3 : (!(n_1.Text == ([] : Str))) = true
      · rw [if_pos h3] at hh
        obtain ⟨afO, h4, hh⟩ := ze hh
        by_cases h5 : (afO) = true
        · rw [if_pos h5] at hh
          obtain ⟨amj, h6, hh⟩ := ze hh
          by_cases h7 : (amj) = true
          · rw [if_pos h7] at hh
            refine zb fun K kk hK => ?_
            simp only [go_sem, h3, h5, h7]
            (repeat refine sd ?_)
            refine zf (kF _ _ h4) (by (try simp only [go_sem, h3, h5, h7]) <;> exact wkl) (by rfl) (by rfl) ?_
            simp only [go_sem, h3, h5, h7]
            (repeat refine sd ?_)
            refine zf (JF _ _ h6) (by (try simp only [go_sem, h3, h5, h7]) <;> exact wkl) (by rfl) (by rfl) ?_
            simp only [go_sem, h3, h5, h7]
            (repeat refine sd ?_)
            refine hK _ _ fun nx => ?_; clear hK K; try clear kk
            refine zk ?_; refine nmx ?_
            obtain hR := Option.some.inj hh
            subst hR
            exact zy
          · rw [if_neg h7] at hh
            replace h7 := Bool.eq_false_iff.mpr h7
            refine zb fun K kk hK => ?_
            simp only [go_sem, h3, h5, h7]
            (repeat refine sd ?_)
            refine zf (kF _ _ h4) (by (try simp only [go_sem, h3, h5, h7]) <;> exact wkl) (by rfl) (by rfl) ?_
            simp only [go_sem, h3, h5, h7]
            (repeat refine sd ?_)
            refine zf (JF _ _ h6) (by (try simp only [go_sem, h3, h5, h7]) <;> exact wkl) (by rfl) (by rfl) ?_
            simp only [go_sem, h3, h5, h7]
            (repeat refine sd ?_)
            refine hK _ _ fun nx => ?_; clear hK K; try clear kk
            refine zk ?_; refine nmx ?_
            obtain hR := Option.some.inj hh
            subst hR
            exact zy
        · rw [if_neg h5] at hh
          replace h5 := Bool.eq_false_iff.mpr h5
          refine zb fun K kk hK => ?_
          simp only [go_sem, h3, h5]
          (repeat refine sd ?_)
          refine zf (kF _ _ h4) (by (try simp only [go_sem, h3, h5]) <;> exact wkl) (by rfl) (by rfl) ?_
          simp only [go_sem, h3, h5]
          (repeat refine sd ?_)
          refine hK _ _ fun nx => ?_; clear hK K; try clear kk
          refine zk ?_; refine nmx ?_
          obtain hR := Option.some.inj hh
          subst hR
          exact zy
      · rw [if_neg h3] at hh
        replace h3 := Bool.eq_false_iff.mpr h3
        refine zb fun K kk hK => ?_
        simp only [go_sem, h3]
        (repeat refine sd ?_)
        refine hK _ _ fun nx => ?_; clear hK K; try clear kk
        refine zk ?_; refine nmx ?_
        obtain hR := Option.some.inj hh
        subst hR
        exact zy
    · rw [if_neg h2] at hh
      replace h2 := Bool.eq_false_iff.mpr h2
      refine zi (by first | exact congrArg PV.bool h2 | rfl) ?_
      refine zt ?_; refine nmx ?_
      refine zb fun K kk hK => ?_
      simp only [go_sem]
      refine hK _ _ fun nx => ?_; clear hK K; try clear kk
      refine zm ?_
      refine zb fun K kk hK => ?_
      simp only [go_sem]
      refine hK _ _ fun nx => ?_; clear hK K; try clear kk
      obtain ⟨e0, f0, hh⟩ := ze hh
      obtain ⟨hlen0, f0⟩ := qa f0
      refine qx (wS (fun s => ∃ Je, .inr Je = e0 ∧ ∃ (alN : Int) (avh : Bool) (nx : Nat) (g1 : Nat) (g3 : Nat), s = ⟨[(1, .box 1 g1 0), (3, .row 3 g3 Je.length), (34, .list 2 (n_1.zu.map zh.pv)), (35, .int .i64 (n_1.zu.length : Int)), (36, .int .i64 alN), (37, .bool avh)], [(1, g1, .var 28 [.str n_1.Kind, .str n_1.Text, .list 1 (n_1.Marks.map PV.str), .list 2 (n_1.zu.map zh.pv), .list 5 (n_1.Kids.map za.pv)]), (3, g3, .row false 1 (Je.map PV.str))], nx⟩))
        (fun i s => False)
        (fun s => ∃ af7, .inl af7 = e0 ∧ zS Tryd.prog [.tmp 2] (.bool af7) [] .ret s) ?_ ?_ ?_ ?_
      · refine zC ?_
        refine qo fun I hI => ?_
        have key : ∀ (suf pre : List zh) (v_8 : Int) (Ky : (List Str)), n_1.zu = pre ++ suf → v_8 = (pre.length : Int) → vz suf v_8 Ky = some e0 → ∀ (nx : Nat) (g1 : Nat) (g3 : Nat), I ⟨[(1, .box 1 g1 0), (3, .row 3 g3 Ky.length), (34, .list 2 (n_1.zu.map zh.pv)), (35, .int .i64 (n_1.zu.length : Int)), (36, .int .i64 v_8)], [(1, g1, .var 28 [.str n_1.Kind, .str n_1.Text, .list 1 (n_1.Marks.map PV.str), .list 2 (n_1.zu.map zh.pv), .list 5 (n_1.Kids.map za.pv)]), (3, g3, .row false 1 (Ky.map PV.str))], nx⟩ := by
          intro suf
          induction suf with
          | nil =>
            intro pre v_8 Ky hsplit hidx hh nx g1 g3
            rw [vz] at hh
            refine hI _ ?_
            have h18 := walk_nil hsplit hidx
            refine zb fun K kk hK => ?_
            simp only [go_sem]
            refine hK _ _ fun nx => ?_; clear hK K; try clear kk
            refine zm ?_
            refine zi (by first | exact congrArg PV.bool h18 | rfl) ?_
            refine zZ ?_; refine nmx ?_
            refine kg ?_
            refine zJ ?_
            refine ⟨_, (Option.some.inj hh), ?_⟩
            first | exact ⟨_, _, _, _, _, rfl⟩ | (simp only [pvE, lsE, zo]; exact ⟨_, _, _, _, _, rfl⟩) | (simp only [pvE, lsE, zo, h18, h2]; exact ⟨_, _, _, _, _, rfl⟩)
          | cons asl suf ih =>
            intro pre v_8 Ky hsplit hidx hh nx g1 g3
            rw [vz] at hh
            refine hI _ ?_
            obtain ⟨hl0a, hl0b, hl0d, hl0w, h18⟩ := qD (f := zh.pv) hsplit hidx hlen0
            refine zb fun K kk hK => ?_
            simp only [go_sem]
            refine hK _ _ fun nx => ?_; clear hK K; try clear kk
            refine zm ?_
            refine zn (by first | exact congrArg PV.bool h18 | rfl) ?_
            refine zt ?_; refine nmx ?_
            refine zm ?_
            refine zC ?_
            refine zb fun K kk hK => ?_
            simp only [go_sem, hl0a, hl0b, hl0d, hl0w]
            refine hK _ _ fun nx => ?_; clear hK K; try clear kk
            refine zm ?_
            obtain ⟨ahd, h19, hh⟩ := ze hh
            refine zb fun K kk hK => ?_
            simp only [go_sem, hl0a, hl0b, hl0d, hl0w]
            refine zf (VN _ _ h19) (by (try simp only [go_sem, hl0a, hl0b, hl0d, hl0w]) <;> exact wkl) (by rfl) (by rfl) ?_
            simp only [go_sem, hl0a, hl0b, hl0d, hl0w]
            refine hK _ _ fun nx => ?_; clear hK K; try clear kk
            by_cases h20 : (!ahd) = true
            · rw [if_pos h20] at hh
              refine zn (by first | exact congrArg PV.bool h20 | rfl) ?_
              refine zb fun K kk hK => ?_
              simp only [go_sem, hl0a, hl0b, hl0d, hl0w]
              refine hK _ _ fun nx => ?_; clear hK K; try clear kk
              refine zk ?_; refine nmx ?_
              refine xZ ⟨_, (Option.some.inj hh), ?_⟩
              exact zy
            · rw [if_neg h20] at hh
              replace h20 := Bool.eq_false_iff.mpr h20
              refine zi (by first | exact congrArg PV.bool h20 | rfl) ?_
              refine zt ?_; refine nmx ?_
              obtain ⟨auz, h21, hh⟩ := ze hh
              obtain ⟨h21a, h21c⟩ := z8 h21
              have h21d := qO (f := PV.str) h21c
              have h21e := qQ h21c
              try simp only [List.length_cons, List.length_nil, Nat.zero_add, Nat.reduceAdd] at h21a h21e
              try simp only [h21e] at h21a
              try simp only [List.map_cons, List.map_nil, List.nil_append, List.append_nil, List.cons_append, List.singleton_append, zo, pvE] at h21d
              refine zq fun K kk hK => ?_
              simp only [go_sem, h21a, h21d, h21e, hl0a, hl0b, hl0d, hl0w]
              (repeat refine sd ?_)
              refine hK _ _ fun nx => ?_; clear hK K; try clear kk
              refine nmx ?_
              refine zq fun K kk hK => ?_
              simp only [go_sem, hl0a, hl0b, hl0d, hl0w]
              refine hK _ _ fun nx => ?_; clear hK K; try clear kk
              refine nmx ?_
              have ih' := ih (pre ++ [asl]) (v_8 + 1) _ (by rw [hsplit]; simp) (by simp [hidx]) hh nx
              refine zJ ?_
              first | exact ih' _ _ | (simp only [pvE, lsE, zo, h21e] at ih' ⊢; exact ih' _ _) | (simp only [pvE, lsE, zo, h21e, h18, h2, h20] at ih' ⊢; exact ih' _ _)
        exact key n_1.zu [] _ _ rfl rfl f0 _ _ _
      · rintro s ⟨t, hless, Je, rfl, alN, avh, nx, g1, g3, rfl⟩
        try dsimp only at hh
        refine nmy ?_
        first | (refine qR hless ?_; try refine wT ?_) | refine qC hless ?_ | refine qE hless ?_
        refine zm ?_
        obtain ⟨ajK, h22, hh⟩ := ze hh
        by_cases h23 : (!ajK) = true
        · rw [if_pos h23] at hh
          refine zb fun K kk hK => ?_
          simp only [go_sem, h23]
          (repeat refine sd ?_)
          refine zf (qP _ _ h22) (by (try simp only [go_sem, h23]) <;> exact wkl) (by rfl) (by rfl) ?_
          simp only [go_sem, h23]
          (repeat refine sd ?_)
          refine hK _ _ fun nx => ?_; clear hK K; try clear kk
          refine zn rfl ?_
          refine zb fun K kk hK => ?_
          simp only [go_sem]
          refine hK _ _ fun nx => ?_; clear hK K; try clear kk
          refine zk ?_; refine nmx ?_
          obtain hR := Option.some.inj hh
          subst hR
          exact zy
        · rw [if_neg h23] at hh
          replace h23 := Bool.eq_false_iff.mpr h23
          by_cases h24 : (!(n_1.Text == ([] : Str))) = true
          · rw [if_pos h24] at hh
            refine zb fun K kk hK => ?_
            simp only [go_sem, h23, h24]
            (repeat refine sd ?_)
            refine zf (qP _ _ h22) (by (try simp only [go_sem, h23, h24]) <;> exact wkl) (by rfl) (by rfl) ?_
            simp only [go_sem, h23, h24]
            (repeat refine sd ?_)
            refine hK _ _ fun nx => ?_; clear hK K; try clear kk
            refine zn rfl ?_
            refine zb fun K kk hK => ?_
            simp only [go_sem]
            refine hK _ _ fun nx => ?_; clear hK K; try clear kk
            refine zk ?_; refine nmx ?_
            obtain hR := Option.some.inj hh
            subst hR
            exact zy
          · rw [if_neg h24] at hh
            replace h24 := Bool.eq_false_iff.mpr h24
            by_cases h25 : (decide ((n_1.Marks.length : Int) > (0 : Int))) = true
            · rw [if_pos h25] at hh
              refine zb fun K kk hK => ?_
              simp only [go_sem, h23, h24, h25, of_decide_eq_true h25]
              (repeat refine sd ?_)
              refine zf (qP _ _ h22) (by (try simp only [go_sem, h23, h24, h25, of_decide_eq_true h25]) <;> exact wkl) (by rfl) (by rfl) ?_
              simp only [go_sem, h23, h24, h25, of_decide_eq_true h25]
              (repeat refine sd ?_)
              refine hK _ _ fun nx => ?_; clear hK K; try clear kk
              refine zn rfl ?_
              refine zb fun K kk hK => ?_
              simp only [go_sem]
              refine hK _ _ fun nx => ?_; clear hK K; try clear kk
              refine zk ?_; refine nmx ?_
              obtain hR := Option.some.inj hh
              subst hR
              exact zy
            · rw [if_neg h25] at hh
              replace h25 := Bool.eq_false_iff.mpr h25
              obtain ⟨akg, h26, hh⟩ := ze hh
              refine zb fun K kk hK => ?_
              simp only [go_sem, h23, h24, h25, of_decide_eq_false h25]
              (repeat refine sd ?_)
              refine zf (qP _ _ h22) (by (try simp only [go_sem, h23, h24, h25, of_decide_eq_false h25]) <;> exact wkl) (by rfl) (by rfl) ?_
              simp only [go_sem, h23, h24, h25, of_decide_eq_false h25]
              (repeat refine sd ?_)
              refine zf (JF _ _ h26) (by (try simp only [go_sem, h23, h24, h25, of_decide_eq_false h25]) <;> exact wkl) (by rfl) (by rfl) ?_
              simp only [go_sem, h23, h24, h25, of_decide_eq_false h25]
              (repeat refine sd ?_)
              refine hK _ _ fun nx => ?_; clear hK K; try clear kk
              by_cases h27 : (!akg) = true
              · rw [if_pos h27] at hh
                refine zn (by first | exact congrArg PV.bool h27 | rfl) ?_
                refine zb fun K kk hK => ?_
                simp only [go_sem]
                refine hK _ _ fun nx => ?_; clear hK K; try clear kk
                refine zk ?_; refine nmx ?_
                obtain hR := Option.some.inj hh
                subst hR
                exact zy
              · rw [if_neg h27] at hh
                replace h27 := Bool.eq_false_iff.mpr h27
                refine zi (by first | exact congrArg PV.bool h27 | rfl) ?_
                refine zt ?_; refine nmx ?_
                refine zm ?_
                refine zb fun K kk hK => ?_
                simp only [go_sem]
                refine hK _ _ fun nx => ?_; clear hK K; try clear kk
                obtain ⟨e1, f1, hh⟩ := ze hh
                obtain ⟨hlen1, f1⟩ := qa f1
                refine qx (wS (fun s => .inr () = e1 ∧ ∃ (au6 : Int) (auq : Bool) (nx : Nat) (g1 : Nat), s = ⟨[(1, .box 1 g1 0), (71, .list 5 (n_1.Kids.map za.pv)), (72, .int .i64 (n_1.Kids.length : Int)), (73, .int .i64 au6), (74, .bool auq)], [(1, g1, .var 28 [.str n_1.Kind, .str n_1.Text, .list 1 (n_1.Marks.map PV.str), .list 2 (n_1.zu.map zh.pv), .list 5 (n_1.Kids.map za.pv)])], nx⟩))
                  (fun i s => False)
                  (fun s => ∃ afI, .inl afI = e1 ∧ zS Tryd.prog [.tmp 2] (.bool afI) [] .ret s) ?_ ?_ ?_ ?_
                · refine zC ?_
                  refine qo fun I hI => ?_
                  have key : ∀ (suf pre : List za) (XI : Int), n_1.Kids = pre ++ suf → XI = (pre.length : Int) → kC n_1 (kG kr) suf XI = some e1 → ∀ (nx : Nat) (g1 : Nat), I ⟨[(1, .box 1 g1 0), (71, .list 5 (n_1.Kids.map za.pv)), (72, .int .i64 (n_1.Kids.length : Int)), (73, .int .i64 XI)], [(1, g1, .var 28 [.str n_1.Kind, .str n_1.Text, .list 1 (n_1.Marks.map PV.str), .list 2 (n_1.zu.map zh.pv), .list 5 (n_1.Kids.map za.pv)])], nx⟩ := by
                    intro suf
                    induction suf with
                    | nil =>
                      intro pre XI hsplit hidx hh nx g1
                      rw [kC] at hh
                      refine hI _ ?_
                      have h44 := walk_nil hsplit hidx
                      refine zb fun K kk hK => ?_
                      simp only [go_sem]
                      refine hK _ _ fun nx => ?_; clear hK K; try clear kk
                      refine zm ?_
                      refine zi (by first | exact congrArg PV.bool h44 | rfl) ?_
                      refine zZ ?_; refine nmx ?_
                      refine kg ?_
                      refine zJ ?_
                      refine ⟨(Option.some.inj hh), ?_⟩
                      first | exact ⟨_, _, _, _, rfl⟩ | (simp only [pvE, lsE, zo]; exact ⟨_, _, _, _, rfl⟩) | (simp only [pvE, lsE, zo, h2, h23, h24, h25, h27, h44]; exact ⟨_, _, _, _, rfl⟩)
                    | cons aqM suf ih =>
                      intro pre XI hsplit hidx hh nx g1
                      rw [kC] at hh
                      refine hI _ ?_
                      obtain ⟨hl1a, hl1b, hl1d, hl1w, h44⟩ := qD (f := za.pv) hsplit hidx hlen1
                      refine zb fun K kk hK => ?_
                      simp only [go_sem]
                      refine hK _ _ fun nx => ?_; clear hK K; try clear kk
                      refine zm ?_
                      refine zn (by first | exact congrArg PV.bool h44 | rfl) ?_
                      refine zt ?_; refine nmx ?_
                      refine zm ?_
                      refine zC ?_
                      refine zb fun K kk hK => ?_
                      simp only [go_sem, hl1a, hl1b, hl1d, hl1w]
                      refine hK _ _ fun nx => ?_; clear hK K; try clear kk
                      obtain ⟨adz, h45, hh⟩ := ze hh
                      by_cases h46 : (!adz) = true
                      · rw [if_pos h46] at hh
                        refine zb fun K kk hK => ?_
                        simp only [go_sem, h46, hl1a, hl1b, hl1d, hl1w]
                        (repeat refine sd ?_)
                        refine zf (ih_node_formed _ _ h45) (by (try simp only [go_sem, h46, hl1a, hl1b, hl1d, hl1w]) <;> exact wkl) (by rfl) (by rfl) ?_
                        simp only [go_sem, h46, hl1a, hl1b, hl1d, hl1w]
                        (repeat refine sd ?_)
                        refine hK _ _ fun nx => ?_; clear hK K; try clear kk
                        refine zn rfl ?_
                        refine zb fun K kk hK => ?_
                        simp only [go_sem, hl1a, hl1b, hl1d, hl1w]
                        refine hK _ _ fun nx => ?_; clear hK K; try clear kk
                        refine zk ?_; refine nmx ?_
                        refine xZ ⟨_, (Option.some.inj hh), ?_⟩
                        exact zy
                      · rw [if_neg h46] at hh
                        replace h46 := Bool.eq_false_iff.mpr h46
                        by_cases h47 : (decide (XI > (0 : Int))) = true
                        · rw [if_pos h47] at hh
                          obtain ⟨auY, h48, hh⟩ := ze hh
                          obtain ⟨h48a, h48b, h48c⟩ := rd_some h48
                          have h48d := vD (f := za.pv) h48c
                          have h48f := wY (f := za.pv) h48c
                          try simp only [Int.toNat_natCast, Int.reduceToNat] at h48d h48f
                          obtain ⟨agH, h49, hh⟩ := ze hh
                          refine zb fun K kk hK => ?_
                          simp only [go_sem, h46, h47, of_decide_eq_true h47, h48a, h48b, h48d, h48f.1, h48f.2, hl1a, hl1b, hl1d, hl1w]
                          (repeat refine sd ?_)
                          refine zf (ih_node_formed _ _ h45) (by (try simp only [go_sem, h46, h47, of_decide_eq_true h47, h48a, h48b, h48d, h48f.1, h48f.2, hl1a, hl1b, hl1d, hl1w]) <;> exact wkl) (by rfl) (by rfl) ?_
                          simp only [go_sem, h46, h47, of_decide_eq_true h47, h48a, h48b, h48d, h48f.1, h48f.2, hl1a, hl1b, hl1d, hl1w]
                          (repeat refine sd ?_)
                          refine zf (V7 _ _ _ h49) (by (try simp only [go_sem, h46, h47, of_decide_eq_true h47, h48a, h48b, h48d, h48f.1, h48f.2, hl1a, hl1b, hl1d, hl1w]) <;> exact wkl) (by rfl) (by rfl) ?_
                          simp only [go_sem, h46, h47, of_decide_eq_true h47, h48a, h48b, h48d, h48f.1, h48f.2, hl1a, hl1b, hl1d, hl1w]
                          (repeat refine sd ?_)
                          refine hK _ _ fun nx => ?_; clear hK K; try clear kk
                          by_cases h50 : (agH) = true
                          · rw [if_pos h50] at hh
                            refine zn (by first | exact congrArg PV.bool h50 | rfl) ?_
                            refine zb fun K kk hK => ?_
                            simp only [go_sem, hl1a, hl1b, hl1d, hl1w]
                            refine hK _ _ fun nx => ?_; clear hK K; try clear kk
                            refine zk ?_; refine nmx ?_
                            refine xZ ⟨_, (Option.some.inj hh), ?_⟩
                            exact zy
                          · rw [if_neg h50] at hh
                            replace h50 := Bool.eq_false_iff.mpr h50
                            refine zi (by first | exact congrArg PV.bool h50 | rfl) ?_
                            refine zt ?_; refine nmx ?_
                            refine zq fun K kk hK => ?_
                            simp only [go_sem, hl1a, hl1b, hl1d, hl1w]
                            refine hK _ _ fun nx => ?_; clear hK K; try clear kk
                            refine nmx ?_
                            have ih' := ih (pre ++ [aqM]) (XI + 1) (by rw [hsplit]; simp) (by simp [hidx]) hh nx
                            refine zJ ?_
                            first | exact ih' _ | (simp only [pvE, lsE, zo] at ih' ⊢; exact ih' _) | (simp only [pvE, lsE, zo, h2, h23, h24, h25, h27, h44, h46, h47, h50] at ih' ⊢; exact ih' _)
                        · rw [if_neg h47] at hh
                          replace h47 := Bool.eq_false_iff.mpr h47
                          refine zb fun K kk hK => ?_
                          simp only [go_sem, h46, h47, of_decide_eq_false h47, hl1a, hl1b, hl1d, hl1w]
                          (repeat refine sd ?_)
                          refine zf (ih_node_formed _ _ h45) (by (try simp only [go_sem, h46, h47, of_decide_eq_false h47, hl1a, hl1b, hl1d, hl1w]) <;> exact wkl) (by rfl) (by rfl) ?_
                          simp only [go_sem, h46, h47, of_decide_eq_false h47, hl1a, hl1b, hl1d, hl1w]
                          (repeat refine sd ?_)
                          refine hK _ _ fun nx => ?_; clear hK K; try clear kk
                          refine zi rfl ?_
                          refine zt ?_; refine nmx ?_
                          refine zq fun K kk hK => ?_
                          simp only [go_sem, hl1a, hl1b, hl1d, hl1w]
                          refine hK _ _ fun nx => ?_; clear hK K; try clear kk
                          refine nmx ?_
                          have ih' := ih (pre ++ [aqM]) (XI + 1) (by rw [hsplit]; simp) (by simp [hidx]) hh nx
                          refine zJ ?_
                          first | exact ih' _ | (simp only [pvE, lsE, zo] at ih' ⊢; exact ih' _) | (simp only [pvE, lsE, zo, h2, h23, h24, h25, h27, h44, h46, h47] at ih' ⊢; exact ih' _)
                  exact key n_1.Kids [] _ rfl rfl f1 _ _
                · rintro s ⟨t, hless, rfl, au6, auq, nx, g1, rfl⟩
                  try dsimp only at hh
                  refine nmy ?_
                  first | (refine qR hless ?_; try refine wT ?_) | refine qC hless ?_ | refine qE hless ?_
                  refine zb fun K kk hK => ?_
                  simp only [go_sem]
                  refine hK _ _ fun nx => ?_; clear hK K; try clear kk
                  refine zk ?_; refine nmx ?_
                  obtain hR := Option.some.inj hh
                  subst hR
                  exact zy
                · intro i s h; exact h.elim
                · rintro s ⟨afI, rfl, hb⟩
                  try dsimp only at hh
                  obtain hR := Option.some.inj hh
                  subst hR
                  refine nmx ?_
                  exact hb
      · intro i s h; exact h.elim
      · rintro s ⟨af7, rfl, hb⟩
        try dsimp only at hh
        obtain hR := Option.some.inj hh
        subst hR
        refine nmx ?_
        exact hb
theorem afG (n_1 : za) (R : Bool) (hh : WG n_1 = some R) : PC Tryd.prog 93 [.agg [.str n_1.Kind, .str n_1.Text, .list 1 (n_1.Marks.map PV.str), .list 2 (n_1.zu.map zh.pv), .list 5 (n_1.Kids.map za.pv)]] (.bool R) := by
 rw [WG] at hh
 obtain ⟨kr, hh⟩ := y8 hh
 exact (afe kr) _ _ hh
theorem agA : ∀ kr : Nat, (∀ (n_1 : za) (R : Int), kZ kr n_1 = some R → PC Tryd.prog 94 [.agg [.str n_1.Kind, .str n_1.Text, .list 1 (n_1.Marks.map PV.str), .list 2 (n_1.zu.map zh.pv), .list 5 (n_1.Kids.map za.pv)]] (.int .i64 R)) := by
  intro kr
  induction kr with
  | zero => exact (by intro n_1 R hh; rw [kZ] at hh; cases hh)
  | succ kr ih =>
    have ih_node_Depth := ih
    clear ih
    intro n_1 R hh
    rw [kZ] at hh
    refine aeb rfl ?_
    refine zb fun K kk hK => ?_
    simp only [go_sem]
    refine hK _ _ fun nx => ?_; clear hK K; try clear kk
    refine zm ?_
    obtain ⟨yn, h1, hh⟩ := ze hh
    refine zb fun K kk hK => ?_
    simp only [go_sem]
    refine zf (kv _ _ h1) (by (try simp only [go_sem]) <;> exact wkl) (by rfl) (by rfl) ?_
    simp only [go_sem]
    refine hK _ _ fun nx => ?_; clear hK K; try clear kk
    by_cases h2 : (yn) = true
    · rw [if_pos h2] at hh
      refine zn (by first | exact congrArg PV.bool h2 | rfl) ?_
      refine zb fun K kk hK => ?_
      simp only [go_sem]
      refine hK _ _ fun nx => ?_; clear hK K; try clear kk
      refine zk ?_; refine nmx ?_
      obtain hR := Option.some.inj hh
      subst hR
      exact zy
    · rw [if_neg h2] at hh
      replace h2 := Bool.eq_false_iff.mpr h2
      refine zi (by first | exact congrArg PV.bool h2 | rfl) ?_
      refine zt ?_; refine nmx ?_
      refine zb fun K kk hK => ?_
      simp only [go_sem]
      refine hK _ _ fun nx => ?_; clear hK K; try clear kk
      refine zm ?_
      refine zb fun K kk hK => ?_
      simp only [go_sem]
      refine hK _ _ fun nx => ?_; clear hK K; try clear kk
      obtain ⟨e0, f0, hh⟩ := ze hh
      obtain ⟨hlen0, f0⟩ := qa f0
      refine qx (wS (fun s => ∃ K6, K6 = e0 ∧ ∃ (Zx : Int) (Xw : Bool) (nx : Nat), s = ⟨[(3, .int .i64 K6), (9, .list 5 (n_1.Kids.map za.pv)), (10, .int .i64 (n_1.Kids.length : Int)), (11, .int .i64 Zx), (12, .bool Xw)], [], nx⟩))
        (fun i s => False)
        (fun s => False) ?_ ?_ ?_ ?_
      · refine zC ?_
        refine qo fun I hI => ?_
        have key : ∀ (suf pre : List za) (v_6 : Int) (yK : Int), n_1.Kids = pre ++ suf → v_6 = (pre.length : Int) → kY (kZ kr) suf v_6 yK = some e0 → ∀ (nx : Nat), I ⟨[(3, .int .i64 yK), (9, .list 5 (n_1.Kids.map za.pv)), (10, .int .i64 (n_1.Kids.length : Int)), (11, .int .i64 v_6)], [], nx⟩ := by
          intro suf
          induction suf with
          | nil =>
            intro pre v_6 yK hsplit hidx hh nx
            rw [kY] at hh
            refine hI _ ?_
            have h9 := walk_nil hsplit hidx
            refine zb fun K kk hK => ?_
            simp only [go_sem]
            refine hK _ _ fun nx => ?_; clear hK K; try clear kk
            refine zm ?_
            refine zi (by first | exact congrArg PV.bool h9 | rfl) ?_
            refine zZ ?_; refine nmx ?_
            refine kg ?_
            refine zJ ?_
            refine ⟨_, (Option.some.inj hh), ?_⟩
            first | exact ⟨_, _, _, rfl⟩ | (simp only [pvE, lsE, zo]; exact ⟨_, _, _, rfl⟩) | (simp only [pvE, lsE, zo, h2, h9]; exact ⟨_, _, _, rfl⟩)
          | cons y_9 suf ih =>
            intro pre v_6 yK hsplit hidx hh nx
            rw [kY] at hh
            refine hI _ ?_
            obtain ⟨hl0a, hl0b, hl0d, hl0w, h9⟩ := qD (f := za.pv) hsplit hidx hlen0
            refine zb fun K kk hK => ?_
            simp only [go_sem]
            refine hK _ _ fun nx => ?_; clear hK K; try clear kk
            refine zm ?_
            refine zn (by first | exact congrArg PV.bool h9 | rfl) ?_
            refine zt ?_; refine nmx ?_
            refine zm ?_
            refine zC ?_
            refine zb fun K kk hK => ?_
            simp only [go_sem, hl0a, hl0b, hl0d, hl0w]
            refine hK _ _ fun nx => ?_; clear hK K; try clear kk
            obtain ⟨ahB, h10, hh⟩ := ze hh
            refine zq fun K kk hK => ?_
            simp only [go_sem, hl0a, hl0b, hl0d, hl0w]
            refine zf (ih_node_Depth _ _ h10) (by (try simp only [go_sem, hl0a, hl0b, hl0d, hl0w]) <;> exact wkl) (by rfl) (by rfl) ?_
            simp only [go_sem, hl0a, hl0b, hl0d, hl0w]
            refine hK _ _ fun nx => ?_; clear hK K; try clear kk
            refine nmx ?_
            refine zq fun K kk hK => ?_
            simp only [go_sem, hl0a, hl0b, hl0d, hl0w]
            refine hK _ _ fun nx => ?_; clear hK K; try clear kk
            refine nmx ?_
            have ih' := ih (pre ++ [y_9]) (v_6 + 1) _ (by rw [hsplit]; simp) (by simp [hidx]) hh nx
            refine zJ ?_
            first | exact ih' | (simp only [pvE, lsE, zo] at ih' ⊢; exact ih') | (simp only [pvE, lsE, zo, h2, h9] at ih' ⊢; exact ih')
        exact key n_1.Kids [] _ _ rfl rfl f0 _
      · rintro s ⟨t, hless, K6, rfl, Zx, Xw, nx, rfl⟩
        try dsimp only at hh
        refine nmy ?_
        first | (refine qR hless ?_; try refine wT ?_) | refine qC hless ?_ | refine qE hless ?_
        refine zb fun K kk hK => ?_
        simp only [go_sem]
        refine hK _ _ fun nx => ?_; clear hK K; try clear kk
        refine zk ?_; refine nmx ?_
        obtain hR := Option.some.inj hh
        subst hR
        exact zy
      · intro i s h; exact h.elim
      · intro s h; exact h.elim
theorem ahW (n_1 : za) (R : Int) (hh : KY n_1 = some R) : PC Tryd.prog 94 [.agg [.str n_1.Kind, .str n_1.Text, .list 1 (n_1.Marks.map PV.str), .list 2 (n_1.zu.map zh.pv), .list 5 (n_1.Kids.map za.pv)]] (.int .i64 R) := by
 rw [KY] at hh
 obtain ⟨kr, hh⟩ := y8 hh
 exact (agA kr) _ _ hh
theorem Wq (n_1 : za) (R : Int) (hh : yw n_1 = some R) : PC Tryd.prog 64 [.agg [.str n_1.Kind, .str n_1.Text, .list 1 (n_1.Marks.map PV.str), .list 2 (n_1.zu.map zh.pv), .list 5 (n_1.Kids.map za.pv)]] (.int .i64 R) := by
  rw [yw] at hh
  refine adJ rfl ?_
  refine zb fun K kk hK => ?_
  simp only [go_sem]
  refine hK _ _ fun nx => ?_; clear hK K; try clear kk
  refine zm ?_
  refine zC ?_
  obtain ⟨agk, h1, hh⟩ := ze hh
  refine zb fun K kk hK => ?_
  simp only [go_sem]
  refine zf (afG _ _ h1) (by (try simp only [go_sem]) <;> exact wkl) (by rfl) (by rfl) ?_
  simp only [go_sem]
  refine hK _ _ fun nx => ?_; clear hK K; try clear kk
  by_cases h2 : (!agk) = true
  · rw [if_pos h2] at hh
    refine zn (by first | exact congrArg PV.bool h2 | rfl) ?_
    refine zb fun K kk hK => ?_
    simp only [go_sem]
    refine hK _ _ fun nx => ?_; clear hK K; try clear kk
    refine zk ?_; refine nmx ?_
    obtain hR := Option.some.inj hh
    subst hR
    exact zy
  · rw [if_neg h2] at hh
    replace h2 := Bool.eq_false_iff.mpr h2
    refine zi (by first | exact congrArg PV.bool h2 | rfl) ?_
    obtain ⟨aj7, h3, hh⟩ := ze hh
    refine zb fun K kk hK => ?_
    simp only [go_sem]
    refine zf (ahW _ _ h3) (by (try simp only [go_sem]) <;> exact wkl) (by rfl) (by rfl) ?_
    simp only [go_sem]
    refine hK _ _ fun nx => ?_; clear hK K; try clear kk
    by_cases h4 : (decide (aj7 > (40 : Int))) = true
    · rw [if_pos h4] at hh
      refine zn (by first | exact congrArg PV.bool h4 | rfl) ?_
      refine zb fun K kk hK => ?_
      simp only [go_sem]
      refine hK _ _ fun nx => ?_; clear hK K; try clear kk
      refine zk ?_; refine nmx ?_
      obtain hR := Option.some.inj hh
      subst hR
      exact zy
    · rw [if_neg h4] at hh
      replace h4 := Bool.eq_false_iff.mpr h4
      refine zi (by first | exact congrArg PV.bool h4 | rfl) ?_
      obtain ⟨amx, h5, hh⟩ := ze hh
      refine zb fun K kk hK => ?_
      simp only [go_sem]
      refine zf (QE _ _ h5) (by (try simp only [go_sem]) <;> exact wkl) (by rfl) (by rfl) ?_
      simp only [go_sem]
      refine hK _ _ fun nx => ?_; clear hK K; try clear kk
      by_cases h6 : (decide (amx > (4000 : Int))) = true
      · rw [if_pos h6] at hh
        refine zn (by first | exact congrArg PV.bool h6 | rfl) ?_
        refine zb fun K kk hK => ?_
        simp only [go_sem]
        refine hK _ _ fun nx => ?_; clear hK K; try clear kk
        refine zk ?_; refine nmx ?_
        obtain hR := Option.some.inj hh
        subst hR
        exact zy
      · rw [if_neg h6] at hh
        replace h6 := Bool.eq_false_iff.mpr h6
        refine zi (by first | exact congrArg PV.bool h6 | rfl) ?_
        refine zt ?_; refine nmx ?_
        refine zb fun K kk hK => ?_
        simp only [go_sem]
        refine hK _ _ fun nx => ?_; clear hK K; try clear kk
        refine zk ?_; refine nmx ?_
        obtain hR := Option.some.inj hh
        subst hR
        exact zy
theorem aah (n_1 : za) (R : Bool) (hh : QY n_1 = some R) : PC Tryd.prog 36 [.agg [.str n_1.Kind, .str n_1.Text, .list 1 (n_1.Marks.map PV.str), .list 2 (n_1.zu.map zh.pv), .list 5 (n_1.Kids.map za.pv)]] (.bool R) := by
  rw [QY] at hh
  refine adB rfl ?_
  refine zb fun K kk hK => ?_
  simp only [go_sem]
  refine hK _ _ fun nx => ?_; clear hK K; try clear kk
  obtain ⟨anu, h1, hh⟩ := ze hh
  refine zb fun K kk hK => ?_
  simp only [go_sem]
  refine zf (Wq _ _ h1) (by (try simp only [go_sem]) <;> exact wkl) (by rfl) (by rfl) ?_
  simp only [go_sem]
  refine hK _ _ fun nx => ?_; clear hK K; try clear kk
  refine zk ?_; refine nmx ?_
  obtain hR := Option.some.inj hh
  subst hR
  exact zy
theorem V3 (l : (List zh)) (R : (List zh)) (hh : xS l = some R) : PC Tryd.prog 70 [.list 2 (l.map zh.pv)] (.own 2 (R.map zh.pv)) := by
 rw [xS] at hh
 obtain ⟨ha, hb⟩ := z8 hh
 rw [List.nil_append] at hb
 subst hb
 try simp only [List.length_nil, Nat.zero_add] at ha
 refine Kr rfl ?_
 refine zb fun K kk hK => ?_
 simp only [go_sem]
 refine hK _ _ fun nx => ?_; clear hK K; try clear kk
 refine zb fun K kk hK => ?_
 simp only [go_sem]
 refine ⟨fun hnil => hK _ _ fun nx => ?_, hK _ _ fun nx => ?_⟩ <;> (clear hK K; try clear kk)
 ·have hl : l = [] := by simpa using hnil
  subst hl
  first | refine zn rfl ?_ | (refine zm ?_; refine zn rfl ?_)
  refine zb fun K kk hK => ?_
  simp only [go_sem]
  refine hK _ _ fun nx => ?_; clear hK K; try clear kk
  refine zk ?_; refine nmx ?_
  exact XK rfl
 ·first | refine zi rfl ?_ | (refine zm ?_; refine zi rfl ?_)
  refine zt ?_; refine nmx ?_
  refine zb fun K kk hK => ?_
  simp only [go_sem, ha]
  refine hK _ _ fun nx => ?_; clear hK K; try clear kk
  refine zk ?_; refine nmx ?_
  exact YT (by rfl) (by rfl) (by rfl) (by simp) (by rfl)
theorem Y9 (l : (List Int)) (R : (List Int)) (hh : slices_Clone_int l = some R) : PC Tryd.prog 100 [.list 1 (l.map (PV.int .i64))] (.own 1 (R.map (PV.int .i64))) := by
 rw [slices_Clone_int] at hh
 obtain ⟨ha, hb⟩ := z8 hh
 rw [List.nil_append] at hb
 subst hb
 try simp only [List.length_nil, Nat.zero_add] at ha
 refine JV rfl ?_
 refine zb fun K kk hK => ?_
 simp only [go_sem]
 refine hK _ _ fun nx => ?_; clear hK K; try clear kk
 refine zb fun K kk hK => ?_
 simp only [go_sem]
 refine ⟨fun hnil => hK _ _ fun nx => ?_, hK _ _ fun nx => ?_⟩ <;> (clear hK K; try clear kk)
 ·have hl : l = [] := by simpa using hnil
  subst hl
  first | refine zn rfl ?_ | (refine zm ?_; refine zn rfl ?_)
  refine zb fun K kk hK => ?_
  simp only [go_sem]
  refine hK _ _ fun nx => ?_; clear hK K; try clear kk
  refine zk ?_; refine nmx ?_
  exact XK rfl
 ·first | refine zi rfl ?_ | (refine zm ?_; refine zi rfl ?_)
  refine zt ?_; refine nmx ?_
  refine zb fun K kk hK => ?_
  simp only [go_sem, ha]
  refine hK _ _ fun nx => ?_; clear hK K; try clear kk
  refine zk ?_; refine nmx ?_
  exact YT (by rfl) (by rfl) (by rfl) (by simp) (by rfl)
theorem yj (n_1 : za) (qZ : (List Int)) (R : (za × Int)) (hh : jP n_1 qZ = some R) : PC Tryd.prog 75 [.agg [.str n_1.Kind, .str n_1.Text, .list 1 (n_1.Marks.map PV.str), .list 2 (n_1.zu.map zh.pv), .list 5 (n_1.Kids.map za.pv)], .list 1 (qZ.map (PV.int .i64))] (.tup [.agg [.str R.1.Kind, .str R.1.Text, .list 1 (R.1.Marks.map PV.str), .list 2 (R.1.zu.map zh.pv), .list 5 (R.1.Kids.map za.pv)], .int .i64 R.2]) := by
  rw [jP] at hh
  refine acL rfl ?_
  refine zb fun K kk hK => ?_
  simp only [go_sem]
  refine hK _ _ fun nx => ?_; clear hK K; try clear kk
  refine zm ?_
  refine zb fun K kk hK => ?_
  simp only [go_sem]
  refine hK _ _ fun nx => ?_; clear hK K; try clear kk
  obtain ⟨e0, f0, hh⟩ := ze hh
  obtain ⟨hlen0, f0⟩ := qa f0
  refine qx (wS (fun s => ∃ afV, .inr afV = e0 ∧ ∃ (Zx : Int) (Xw : Bool) (nx : Nat) (g2 : Nat) (g4 : Nat), s = ⟨[(2, .box 2 g2 0), (4, .box 4 g4 0), (8, .list 1 (qZ.map (PV.int .i64))), (9, .int .i64 (qZ.length : Int)), (10, .int .i64 Zx), (11, .bool Xw)], [(2, g2, .var 28 [.str afV.Kind, .str afV.Text, .list 1 (afV.Marks.map PV.str), .list 2 (afV.zu.map zh.pv), .list 5 (afV.Kids.map za.pv)]), (4, g4, .var 28 [.str ([] : Str), .str ([] : Str), .list 1 ([].map PV.str), .list 2 ([].map zh.pv), .list 5 ([].map za.pv)])], nx⟩))
    (fun i s => False)
    (fun s => ∃ VV, .inl VV = e0 ∧ zS Tryd.prog [.cell 4 28, .tmp 5] (.tup [.agg [.str VV.1.Kind, .str VV.1.Text, .list 1 (VV.1.Marks.map PV.str), .list 2 (VV.1.zu.map zh.pv), .list 5 (VV.1.Kids.map za.pv)], .int .i64 VV.2]) [] .ret s) ?_ ?_ ?_ ?_
  · refine zC ?_
    refine qo fun I hI => ?_
    have key : ∀ (suf pre : List Int) (v_6 : Int) (n_5 : za), qZ = pre ++ suf → v_6 = (pre.length : Int) → jm suf v_6 n_5 = some e0 → ∀ (nx : Nat) (g2 : Nat) (g4 : Nat), I ⟨[(2, .box 2 g2 0), (4, .box 4 g4 0), (8, .list 1 (qZ.map (PV.int .i64))), (9, .int .i64 (qZ.length : Int)), (10, .int .i64 v_6)], [(2, g2, .var 28 [.str n_5.Kind, .str n_5.Text, .list 1 (n_5.Marks.map PV.str), .list 2 (n_5.zu.map zh.pv), .list 5 (n_5.Kids.map za.pv)]), (4, g4, .var 28 [.str ([] : Str), .str ([] : Str), .list 1 ([].map PV.str), .list 2 ([].map zh.pv), .list 5 ([].map za.pv)])], nx⟩ := by
      intro suf
      induction suf with
      | nil =>
        intro pre v_6 n_5 hsplit hidx hh nx g2 g4
        rw [jm] at hh
        refine hI _ ?_
        have h13 := walk_nil hsplit hidx
        refine zb fun K kk hK => ?_
        simp only [go_sem]
        refine hK _ _ fun nx => ?_; clear hK K; try clear kk
        refine zm ?_
        refine zi (by first | exact congrArg PV.bool h13 | rfl) ?_
        refine zZ ?_; refine nmx ?_
        refine kg ?_
        refine zJ ?_
        refine ⟨_, (Option.some.inj hh), ?_⟩
        first | exact ⟨_, _, _, _, _, rfl⟩ | (simp only [pvE, lsE, zo]; exact ⟨_, _, _, _, _, rfl⟩) | (simp only [pvE, lsE, zo, h13]; exact ⟨_, _, _, _, _, rfl⟩)
      | cons y_9 suf ih =>
        intro pre v_6 n_5 hsplit hidx hh nx g2 g4
        rw [jm] at hh
        refine hI _ ?_
        obtain ⟨hl0a, hl0b, hl0d, hl0w, h13⟩ := qD (f := (PV.int .i64)) hsplit hidx hlen0
        refine zb fun K kk hK => ?_
        simp only [go_sem]
        refine hK _ _ fun nx => ?_; clear hK K; try clear kk
        refine zm ?_
        refine zn (by first | exact congrArg PV.bool h13 | rfl) ?_
        refine zt ?_; refine nmx ?_
        refine zm ?_
        refine zC ?_
        refine zb fun K kk hK => ?_
        simp only [go_sem, hl0a, hl0b, hl0d, hl0w]
        refine hK _ _ fun nx => ?_; clear hK K; try clear kk
        refine zm ?_
        by_cases h14 : (decide (y_9 < (0 : Int))) = true
        · rw [if_pos h14] at hh
          refine zb fun K kk hK => ?_
          simp only [go_sem, h14, of_decide_eq_true h14, hl0a, hl0b, hl0d, hl0w]
          (repeat refine sd ?_)
          refine hK _ _ fun nx => ?_; clear hK K; try clear kk
          refine zn rfl ?_
          refine zb fun K kk hK => ?_
          simp only [go_sem, hl0a, hl0b, hl0d, hl0w]
          refine hK _ _ fun nx => ?_; clear hK K; try clear kk
          refine zk ?_; refine nmx ?_
          refine xZ ⟨_, (Option.some.inj hh), ?_⟩
          exact zy
        · rw [if_neg h14] at hh
          replace h14 := Bool.eq_false_iff.mpr h14
          by_cases h15 : (decide (y_9 ≥ (n_5.Kids.length : Int))) = true
          · rw [if_pos h15] at hh
            refine zb fun K kk hK => ?_
            simp only [go_sem, h14, of_decide_eq_false h14, h15, of_decide_eq_true h15, hl0a, hl0b, hl0d, hl0w]
            (repeat refine sd ?_)
            refine hK _ _ fun nx => ?_; clear hK K; try clear kk
            refine zn rfl ?_
            refine zb fun K kk hK => ?_
            simp only [go_sem, hl0a, hl0b, hl0d, hl0w]
            refine hK _ _ fun nx => ?_; clear hK K; try clear kk
            refine zk ?_; refine nmx ?_
            refine xZ ⟨_, (Option.some.inj hh), ?_⟩
            exact zy
          · rw [if_neg h15] at hh
            replace h15 := Bool.eq_false_iff.mpr h15
            refine zb fun K kk hK => ?_
            simp only [go_sem, h14, of_decide_eq_false h14, h15, of_decide_eq_false h15, hl0a, hl0b, hl0d, hl0w]
            (repeat refine sd ?_)
            refine hK _ _ fun nx => ?_; clear hK K; try clear kk
            by_cases h16 : (n_5.Kind == ([116, 101, 120, 116] : Str)) = true
            · rw [if_pos h16] at hh
              refine zn (by first | exact congrArg PV.bool h16 | rfl) ?_
              refine zb fun K kk hK => ?_
              simp only [go_sem, hl0a, hl0b, hl0d, hl0w]
              refine hK _ _ fun nx => ?_; clear hK K; try clear kk
              refine zk ?_; refine nmx ?_
              refine xZ ⟨_, (Option.some.inj hh), ?_⟩
              exact zy
            · rw [if_neg h16] at hh
              replace h16 := Bool.eq_false_iff.mpr h16
              refine zi (by first | exact congrArg PV.bool h16 | rfl) ?_
              refine zt ?_; refine nmx ?_
              obtain ⟨ahR, h17, hh⟩ := ze hh
              obtain ⟨h17a, h17b, h17c⟩ := rd_some h17
              have h17d := vD (f := za.pv) h17c
              have h17f := wY (f := za.pv) h17c
              try simp only [Int.toNat_natCast, Int.reduceToNat] at h17d h17f
              refine zq fun K kk hK => ?_
              simp only [go_sem, h17a, h17b, h17d, h17f.1, h17f.2, hl0a, hl0b, hl0d, hl0w]
              (repeat refine sd ?_)
              refine hK _ _ fun nx => ?_; clear hK K; try clear kk
              refine nmx ?_
              refine zq fun K kk hK => ?_
              simp only [go_sem, hl0a, hl0b, hl0d, hl0w]
              refine hK _ _ fun nx => ?_; clear hK K; try clear kk
              refine nmx ?_
              have ih' := ih (pre ++ [y_9]) (v_6 + 1) _ (by rw [hsplit]; simp) (by simp [hidx]) hh nx
              refine zJ ?_
              first | exact ih' _ _ | (simp only [pvE, lsE, zo] at ih' ⊢; exact ih' _ _) | (simp only [pvE, lsE, zo, h13, h14, h15, h16] at ih' ⊢; exact ih' _ _)
    exact key qZ [] _ _ rfl rfl f0 _ _ _
  · rintro s ⟨t, hless, afV, rfl, Zx, Xw, nx, g2, g4, rfl⟩
    try dsimp only at hh
    refine nmy ?_
    first | (refine qR hless ?_; try refine wT ?_) | refine qC hless ?_ | refine qE hless ?_
    refine zm ?_
    refine zb fun K kk hK => ?_
    simp only [go_sem]
    refine hK _ _ fun nx => ?_; clear hK K; try clear kk
    by_cases h18 : (afV.Kind == ([116, 101, 120, 116] : Str)) = true
    · rw [if_pos h18] at hh
      refine zn (by first | exact congrArg PV.bool h18 | rfl) ?_
      refine zb fun K kk hK => ?_
      simp only [go_sem]
      refine hK _ _ fun nx => ?_; clear hK K; try clear kk
      refine zk ?_; refine nmx ?_
      obtain hR := Option.some.inj hh
      subst hR
      exact zy
    · rw [if_neg h18] at hh
      replace h18 := Bool.eq_false_iff.mpr h18
      refine zi (by first | exact congrArg PV.bool h18 | rfl) ?_
      refine zt ?_; refine nmx ?_
      refine zb fun K kk hK => ?_
      simp only [go_sem]
      refine hK _ _ fun nx => ?_; clear hK K; try clear kk
      refine zk ?_; refine nmx ?_
      obtain hR := Option.some.inj hh
      subst hR
      exact zy
  · intro i s h; exact h.elim
  · rintro s ⟨VV, rfl, hb⟩
    try dsimp only at hh
    obtain hR := Option.some.inj hh
    subst hR
    refine nmx ?_
    exact hb
end Go.Proofs.YtclohbgnaopjfaaDoor
