/- Texts of the proof of stepThroughCard -/
import Derived.Test.YtclohbgnaopjfaaDoorAgC
import Derived.Test.YtclohbgnaopjfaaDoorAgF
import Derived.Test.YtclohbgnaopjfaaDoorAgK0
import Derived.Test.YtclohbgnaopjfaaDoorAgK1
import Derived.Test.YtclohbgnaopjfaaDoorAgL
namespace Go.Proofs.YtclohbgnaopjfaaDoor
set_option linter.unusedSimpArgs false
set_option linter.unusedVariables false
open Go
set_option maxRecDepth 100000
theorem We (n_1 : za) (wC : Int) (R : (qU × Int)) (hh : j4 n_1 wC = some R) : PC Tryd.prog 97 [.agg [.str n_1.Kind, .str n_1.Text, .list 1 (n_1.Marks.map PV.str), .list 2 (n_1.zu.map zh.pv), .list 5 (n_1.Kids.map za.pv)], .int .i64 wC] (.tup [.agg [.list 1 (R.1.Path.map (PV.int .i64)), .int .i64 R.1.Index, .int .i64 R.1.Offset], .int .i64 R.2]) := by
  rw [j4] at hh
  refine Y5 rfl ?_
  refine zb fun K kk hK => ?_
  simp only [go_sem]
  refine hK _ _ fun nx => ?_; clear hK K; try clear kk
  refine aie ?_
  refine zm ?_
  by_cases h1 : (n_1.Kind == ([116, 101, 120, 116] : Str)) = true
  · rw [if_pos h1] at hh
    refine zb fun K kk hK => ?_
    simp only [go_sem, h1]
    (repeat refine sd ?_)
    refine hK _ _ fun nx => ?_; clear hK K; try clear kk
    refine zn rfl ?_
    refine zb fun K kk hK => ?_
    simp only [go_sem]
    refine hK _ _ fun nx => ?_; clear hK K; try clear kk
    refine zk ?_; refine nmx ?_
    obtain hR := Option.some.inj hh
    subst hR
    exact zy
  · rw [if_neg h1] at hh
    replace h1 := Bool.eq_false_iff.mpr h1
    by_cases h2 : (decide (wC < (0 : Int))) = true
    · rw [if_pos h2] at hh
      refine zb fun K kk hK => ?_
      simp only [go_sem, h1, h2, of_decide_eq_true h2]
      (repeat refine sd ?_)
      refine hK _ _ fun nx => ?_; clear hK K; try clear kk
      refine zn rfl ?_
      refine zb fun K kk hK => ?_
      simp only [go_sem]
      refine hK _ _ fun nx => ?_; clear hK K; try clear kk
      refine zk ?_; refine nmx ?_
      obtain hR := Option.some.inj hh
      subst hR
      exact zy
    · rw [if_neg h2] at hh
      replace h2 := Bool.eq_false_iff.mpr h2
      obtain ⟨Qi, h3, hh⟩ := ze hh
      refine zb fun K kk hK => ?_
      simp only [go_sem, h1, h2, of_decide_eq_false h2]
      (repeat refine sd ?_)
      refine zf (j6 _ _ h3) (by (try simp only [go_sem, h1, h2, of_decide_eq_false h2]) <;> exact wkl) (by rfl) (by rfl) ?_
      simp only [go_sem, h1, h2, of_decide_eq_false h2]
      (repeat refine sd ?_)
      refine hK _ _ fun nx => ?_; clear hK K; try clear kk
      by_cases h4 : (decide (wC > Qi)) = true
      · rw [if_pos h4] at hh
        refine zn (by first | exact congrArg PV.bool h4 | rfl) ?_
        refine zb fun K kk hK => ?_
        simp only [go_sem]
        refine hK _ _ fun nx => ?_; clear hK K; try clear kk
        refine zk ?_; refine nmx ?_
        obtain hR := Option.some.inj hh
        subst hR
        exact zy
      · rw [if_neg h4] at hh
        replace h4 := Bool.eq_false_iff.mpr h4
        refine zi (by first | exact congrArg PV.bool h4 | rfl) ?_
        refine zt ?_; refine nmx ?_
        refine zb fun K kk hK => ?_
        simp only [go_sem]
        refine hK _ _ fun nx => ?_; clear hK K; try clear kk
        refine zm ?_
        refine aiR ?_; refine nmx ?_
        obtain ⟨e0, f0, hh⟩ := ze hh
        refine qx (wS (fun s => False))
          (fun i s => False)
          (fun s => ∃ X0, X0 = e0 ∧ zS Tryd.prog [.cell 4 149, .tmp 5] (.tup [.agg [.list 1 (X0.1.Path.map (PV.int .i64)), .int .i64 X0.1.Index, .int .i64 X0.1.Offset], .int .i64 X0.2]) [] .ret s) ?_ ?_ ?_ ?_
        · refine zC ?_
          refine qo fun I hI => ?_
          obtain ⟨k, f0⟩ := y8 f0
          have key : ∀ (k : Nat) (ad1 : Int) (QF : za) (Xu : (List Int)), wU k ad1 QF Xu = some e0 → ∀ (nx : Nat) (g2 : Nat) (g4 : Nat) (g6 : Nat) (g342 : Nat), I ⟨[(1, .int .i64 ad1), (2, .box 2 g2 0), (4, .box 4 g4 0), (6, .box 6 g6 0)], [(2, g2, .var 28 [.str QF.Kind, .str QF.Text, .list 1 (QF.Marks.map PV.str), .list 2 (QF.zu.map zh.pv), .list 5 (QF.Kids.map za.pv)]), (4, g4, .var 149 [.list 1 ([].map (PV.int .i64)), .int .i64 (0 : Int), .int .i64 (0 : Int)]), (6, g6, .var 149 [.row 342 g342 Xu.length, .int .i64 (0 : Int), .int .i64 (0 : Int)]), (342, g342, .row false 1 (Xu.map (PV.int .i64)))], nx⟩ := by
            intro k
            induction k with
            | zero => intro ad1 QF Xu hh; rw [wU] at hh; cases hh
            | succ k ih =>
              intro ad1 QF Xu hh nx g2 g4 g6 g342
              rw [wU] at hh
              refine hI _ ?_
              refine zC ?_
              refine zm ?_
              refine zb fun K kk hK => ?_
              simp only [go_sem]
              refine hK _ _ fun nx => ?_; clear hK K; try clear kk
              obtain ⟨e2, f2, hh⟩ := ze hh
              obtain ⟨hlen2, f2⟩ := qa f2
              refine qx (wS (fun s => .inr (.inr ()) = e2 ∧ ∃ (aqQ : Int) (apZ : Int) (avy : Bool) (nx : Nat) (g2 : Nat) (g4 : Nat) (g6 : Nat) (g342 : Nat), s = ⟨[(1, .int .i64 aqQ), (2, .box 2 g2 0), (4, .box 4 g4 0), (6, .box 6 g6 0), (26, .list 5 (QF.Kids.map za.pv)), (27, .int .i64 (QF.Kids.length : Int)), (28, .int .i64 apZ), (29, .bool avy)], [(2, g2, .var 28 [.str QF.Kind, .str QF.Text, .list 1 (QF.Marks.map PV.str), .list 2 (QF.zu.map zh.pv), .list 5 (QF.Kids.map za.pv)]), (4, g4, .var 149 [.list 1 ([].map (PV.int .i64)), .int .i64 (0 : Int), .int .i64 (0 : Int)]), (6, g6, .var 149 [.row 342 g342 Xu.length, .int .i64 (0 : Int), .int .i64 (0 : Int)]), (342, g342, .row false 1 (Xu.map (PV.int .i64)))], nx⟩))
                (fun i s => (i = 1 ∧ ∃ af3, ∃ aj2, ∃ Yl, .inr (.inl (af3, aj2, Yl)) = e2 ∧ ∃ (nx : Nat) (g2 : Nat) (g4 : Nat) (g6 : Nat) (g342 : Nat), s = ⟨[(1, .int .i64 af3), (2, .box 2 g2 0), (4, .box 4 g4 0), (6, .box 6 g6 0)], [(2, g2, .var 28 [.str aj2.Kind, .str aj2.Text, .list 1 (aj2.Marks.map PV.str), .list 2 (aj2.zu.map zh.pv), .list 5 (aj2.Kids.map za.pv)]), (4, g4, .var 149 [.list 1 ([].map (PV.int .i64)), .int .i64 (0 : Int), .int .i64 (0 : Int)]), (6, g6, .var 149 [.row 342 g342 Yl.length, .int .i64 (0 : Int), .int .i64 (0 : Int)]), (342, g342, .row false 1 (Yl.map (PV.int .i64)))], nx⟩))
                (fun s => ∃ X6, .inl X6 = e2 ∧ zS Tryd.prog [.cell 4 149, .tmp 5] (.tup [.agg [.list 1 (X6.1.Path.map (PV.int .i64)), .int .i64 X6.1.Index, .int .i64 X6.1.Offset], .int .i64 X6.2]) [] .ret s) ?_ ?_ ?_ ?_
              · refine zC ?_
                refine qo fun I hI => ?_
                have key : ∀ (suf pre : List za) (afi : Int) (QS : Int), QF.Kids = pre ++ suf → afi = (pre.length : Int) → zY Xu suf afi QS = some e2 → ∀ (nx : Nat) (g2 : Nat) (g4 : Nat) (g6 : Nat) (g342 : Nat), I ⟨[(1, .int .i64 QS), (2, .box 2 g2 0), (4, .box 4 g4 0), (6, .box 6 g6 0), (26, .list 5 (QF.Kids.map za.pv)), (27, .int .i64 (QF.Kids.length : Int)), (28, .int .i64 afi)], [(2, g2, .var 28 [.str QF.Kind, .str QF.Text, .list 1 (QF.Marks.map PV.str), .list 2 (QF.zu.map zh.pv), .list 5 (QF.Kids.map za.pv)]), (4, g4, .var 149 [.list 1 ([].map (PV.int .i64)), .int .i64 (0 : Int), .int .i64 (0 : Int)]), (6, g6, .var 149 [.row 342 g342 Xu.length, .int .i64 (0 : Int), .int .i64 (0 : Int)]), (342, g342, .row false 1 (Xu.map (PV.int .i64)))], nx⟩ := by
                  intro suf
                  induction suf with
                  | nil =>
                    intro pre afi QS hsplit hidx hh nx g2 g4 g6 g342
                    rw [zY] at hh
                    refine hI _ ?_
                    have h39 := walk_nil hsplit hidx
                    refine zb fun K kk hK => ?_
                    simp only [go_sem]
                    refine hK _ _ fun nx => ?_; clear hK K; try clear kk
                    refine zm ?_
                    refine zi (by first | exact congrArg PV.bool h39 | rfl) ?_
                    refine zZ ?_; refine nmx ?_
                    refine kg ?_
                    refine zJ ?_
                    refine ⟨(Option.some.inj hh), ?_⟩
                    first | exact ⟨_, _, _, _, _, _, _, _, rfl⟩ | (simp only [pvE, lsE, zo]; exact ⟨_, _, _, _, _, _, _, _, rfl⟩) | (simp only [pvE, lsE, zo, h1, h2, h39, h4]; exact ⟨_, _, _, _, _, _, _, _, rfl⟩)
                  | cons ao0 suf ih =>
                    intro pre afi QS hsplit hidx hh nx g2 g4 g6 g342
                    rw [zY] at hh
                    refine hI _ ?_
                    obtain ⟨hl2a, hl2b, hl2d, hl2w, h39⟩ := qD (f := za.pv) hsplit hidx hlen2
                    refine zb fun K kk hK => ?_
                    simp only [go_sem]
                    refine hK _ _ fun nx => ?_; clear hK K; try clear kk
                    refine zm ?_
                    refine zn (by first | exact congrArg PV.bool h39 | rfl) ?_
                    refine zt ?_; refine nmx ?_
                    refine zm ?_
                    refine zC ?_
                    refine zb fun K kk hK => ?_
                    simp only [go_sem, hl2a, hl2b, hl2d, hl2w]
                    refine hK _ _ fun nx => ?_; clear hK K; try clear kk
                    obtain ⟨afr, h40, hh⟩ := ze hh
                    refine zb fun K kk hK => ?_
                    simp only [go_sem, hl2a, hl2b, hl2d, hl2w]
                    refine zf (QE _ _ h40) (by (try simp only [go_sem, hl2a, hl2b, hl2d, hl2w]) <;> exact wkl) (by rfl) (by rfl) ?_
                    simp only [go_sem, hl2a, hl2b, hl2d, hl2w]
                    refine hK _ _ fun nx => ?_; clear hK K; try clear kk
                    refine zC ?_
                    refine zb fun K kk hK => ?_
                    simp only [go_sem, hl2a, hl2b, hl2d, hl2w]
                    refine hK _ _ fun nx => ?_; clear hK K; try clear kk
                    by_cases h41 : (decide (QS ≥ afr)) = true
                    · rw [if_pos h41] at hh
                      refine zn (by first | exact congrArg PV.bool h41 | rfl) ?_
                      refine zq fun K kk hK => ?_
                      simp only [go_sem, hl2a, hl2b, hl2d, hl2w]
                      refine hK _ _ fun nx => ?_; clear hK K; try clear kk
                      refine nmx ?_
                      refine zq fun K kk hK => ?_
                      simp only [go_sem, hl2a, hl2b, hl2d, hl2w]
                      refine hK _ _ fun nx => ?_; clear hK K; try clear kk
                      refine nmx ?_
                      have ih' := ih (pre ++ [ao0]) (afi + 1) _ (by rw [hsplit]; simp) (by simp [hidx]) hh nx
                      refine zJ ?_
                      first | exact ih' _ _ _ _ | (simp only [pvE, lsE, zo] at ih' ⊢; exact ih' _ _ _ _) | (simp only [pvE, lsE, zo, h1, h2, h39, h4, h41] at ih' ⊢; exact ih' _ _ _ _)
                    · rw [if_neg h41] at hh
                      replace h41 := Bool.eq_false_iff.mpr h41
                      refine zi (by first | exact congrArg PV.bool h41 | rfl) ?_
                      refine zb fun K kk hK => ?_
                      simp only [go_sem, hl2a, hl2b, hl2d, hl2w]
                      refine hK _ _ fun nx => ?_; clear hK K; try clear kk
                      by_cases h42 : (ao0.Kind == ([116, 101, 120, 116] : Str)) = true
                      · rw [if_pos h42] at hh
                        refine zn (by first | exact congrArg PV.bool h42 | rfl) ?_
                        refine zb fun K kk hK => ?_
                        simp only [go_sem, hl2a, hl2b, hl2d, hl2w]
                        refine hK _ _ fun nx => ?_; clear hK K; try clear kk
                        refine zb fun K kk hK => ?_
                        simp only [go_sem, hl2a, hl2b, hl2d, hl2w]
                        refine hK _ _ fun nx => ?_; clear hK K; try clear kk
                        refine zk ?_; refine nmx ?_
                        refine xZ ⟨_, (Option.some.inj hh), ?_⟩
                        exact zy
                      · rw [if_neg h42] at hh
                        replace h42 := Bool.eq_false_iff.mpr h42
                        refine zi (by first | exact congrArg PV.bool h42 | rfl) ?_
                        refine zb fun K kk hK => ?_
                        simp only [go_sem, hl2a, hl2b, hl2d, hl2w]
                        refine hK _ _ fun nx => ?_; clear hK K; try clear kk
                        by_cases h43 : (QS == (0 : Int)) = true
                        · rw [if_pos h43] at hh
                          refine zn (by first | exact congrArg PV.bool h43 | rfl) ?_
                          refine zb fun K kk hK => ?_
                          simp only [go_sem, hl2a, hl2b, hl2d, hl2w]
                          refine hK _ _ fun nx => ?_; clear hK K; try clear kk
                          refine zb fun K kk hK => ?_
                          simp only [go_sem, hl2a, hl2b, hl2d, hl2w]
                          refine hK _ _ fun nx => ?_; clear hK K; try clear kk
                          refine zk ?_; refine nmx ?_
                          refine xZ ⟨_, (Option.some.inj hh), ?_⟩
                          exact zy
                        · rw [if_neg h43] at hh
                          replace h43 := Bool.eq_false_iff.mpr h43
                          refine zi (by first | exact congrArg PV.bool h43 | rfl) ?_
                          obtain ⟨apO, h44, hh⟩ := ze hh
                          obtain ⟨h44a, h44c⟩ := z8 h44
                          have h44d := qO (f := (PV.int .i64)) h44c
                          have h44e := qQ h44c
                          try simp only [List.length_cons, List.length_nil, Nat.zero_add, Nat.reduceAdd] at h44a h44e
                          try simp only [h44e] at h44a
                          try simp only [List.map_cons, List.map_nil, List.nil_append, List.append_nil, List.cons_append, List.singleton_append, zo, pvE] at h44d
                          refine zb fun K kk hK => ?_
                          simp only [go_sem, h44a, h44d, h44e, hl2a, hl2b, hl2d, hl2w]
                          (repeat refine sd ?_)
                          refine hK _ _ fun nx => ?_; clear hK K; try clear kk
                          refine zb fun K kk hK => ?_
                          simp only [go_sem, hl2a, hl2b, hl2d, hl2w]
                          refine hK _ _ fun nx => ?_; clear hK K; try clear kk
                          refine zZ ?_; refine nmx ?_
                          refine arP ⟨rfl, _, _, _, (Option.some.inj hh), ?_⟩
                          first | exact ⟨_, _, _, _, _, rfl⟩ | (simp only [pvE, lsE, zo, h44e]; exact ⟨_, _, _, _, _, rfl⟩) | (simp only [pvE, lsE, zo, h44e, h1, h2, h39, h4, h41, h42, h43]; exact ⟨_, _, _, _, _, rfl⟩)
                exact key QF.Kids [] _ _ rfl rfl f2 _ _ _ _ _
              · rintro s ⟨t, hless, rfl, aqQ, apZ, avy, nx, g2, g4, g6, g342, rfl⟩
                try dsimp only at hh
                refine nmy ?_
                first | (refine qR hless ?_; try refine wT ?_) | refine qC hless ?_ | refine qE hless ?_
                refine zb fun K kk hK => ?_
                simp only [go_sem]
                refine hK _ _ fun nx => ?_; clear hK K; try clear kk
                refine zb fun K kk hK => ?_
                simp only [go_sem]
                refine hK _ _ fun nx => ?_; clear hK K; try clear kk
                refine zk ?_; refine nmx ?_
                refine xZ ⟨_, (Option.some.inj hh), ?_⟩
                exact zy
              · intro i s h
                obtain ⟨rfl, af3, aj2, Yl, rfl, nx, g2, g4, g6, g342, rfl⟩ := h
                try dsimp only at hh
                refine nmx ?_
                have ih' := ih _ _ _ hh nx
                refine zJ ?_
                first | exact ih' _ _ _ _ | (simp only [pvE, lsE, zo] at ih' ⊢; exact ih' _ _ _ _) | (simp only [pvE, lsE, zo, h1, h2, h4] at ih' ⊢; exact ih' _ _ _ _)
              · rintro s ⟨X6, rfl, hb⟩
                try dsimp only at hh
                refine nmx ?_
                exact xZ ⟨_, (Option.some.inj hh), hb⟩
          exact key _ _ _ _ f0 _ _ _ _ _
        · rintro s ⟨_, _, h⟩; exact h.elim
        · intro i s h; exact h.elim
        · rintro s ⟨X0, rfl, hb⟩
          try dsimp only at hh
          obtain hR := Option.some.inj hh
          subst hR
          refine nmx ?_
          exact hb
theorem agj (n_1 : za) (wC : Int) (R : ((List Int) × Bool)) (hh : X3 n_1 wC = some R) : PC Tryd.prog 74 [.agg [.str n_1.Kind, .str n_1.Text, .list 1 (n_1.Marks.map PV.str), .list 2 (n_1.zu.map zh.pv), .list 5 (n_1.Kids.map za.pv)], .int .i64 wC] (.tup [.list 1 (R.1.map (PV.int .i64)), .bool R.2]) := by
  rw [X3] at hh
  refine adn rfl ?_
  refine zb fun K kk hK => ?_
  simp only [go_sem]
  refine hK _ _ fun nx => ?_; clear hK K; try clear kk
  refine zm ?_
  refine zb fun K kk hK => ?_
  simp only [go_sem]
  refine hK _ _ fun nx => ?_; clear hK K; try clear kk
  by_cases h1 : (wC == (-1 : Int)) = true
  · rw [if_pos h1] at hh
    refine zn (by first | exact congrArg PV.bool h1 | rfl) ?_
    refine zb fun K kk hK => ?_
    simp only [go_sem]
    refine hK _ _ fun nx => ?_; clear hK K; try clear kk
    refine zk ?_; refine nmx ?_
    obtain hR := Option.some.inj hh
    subst hR
    exact zy
  · rw [if_neg h1] at hh
    replace h1 := Bool.eq_false_iff.mpr h1
    refine zi (by first | exact congrArg PV.bool h1 | rfl) ?_
    refine zt ?_; refine nmx ?_
    obtain ⟨⟨r_3, r_4⟩, h2, hh⟩ := ze hh
    dsimp only at hh
    refine zb fun K kk hK => ?_
    simp only [go_sem]
    refine zf (We _ _ _ h2) (by (try simp only [go_sem]) <;> exact wkl) (by rfl) (by rfl) ?_
    simp only [go_sem]
    refine hK _ _ fun nx => ?_; clear hK K; try clear kk
    refine zm ?_
    by_cases h3 : (r_4 != (0 : Int)) = true
    · rw [if_pos h3] at hh
      refine zb fun K kk hK => ?_
      simp only [go_sem, h3]
      (repeat refine sd ?_)
      refine hK _ _ fun nx => ?_; clear hK K; try clear kk
      refine zn rfl ?_
      refine zb fun K kk hK => ?_
      simp only [go_sem]
      refine hK _ _ fun nx => ?_; clear hK K; try clear kk
      refine zk ?_; refine nmx ?_
      obtain hR := Option.some.inj hh
      subst hR
      exact zy
    · rw [if_neg h3] at hh
      replace h3 := Bool.eq_false_iff.mpr h3
      refine zb fun K kk hK => ?_
      simp only [go_sem, h3]
      (repeat refine sd ?_)
      refine hK _ _ fun nx => ?_; clear hK K; try clear kk
      by_cases h4 : (decide (r_3.Offset > (0 : Int))) = true
      · rw [if_pos h4] at hh
        refine zn (by first | exact congrArg PV.bool h4 | rfl) ?_
        refine zb fun K kk hK => ?_
        simp only [go_sem]
        refine hK _ _ fun nx => ?_; clear hK K; try clear kk
        refine zk ?_; refine nmx ?_
        obtain hR := Option.some.inj hh
        subst hR
        exact zy
      · rw [if_neg h4] at hh
        replace h4 := Bool.eq_false_iff.mpr h4
        refine zi (by first | exact congrArg PV.bool h4 | rfl) ?_
        refine zt ?_; refine nmx ?_
        obtain ⟨as6, h5, hh⟩ := ze hh
        obtain ⟨l_6, h6, hh⟩ := ze hh
        obtain ⟨h6a, h6c⟩ := z8 h6
        have h6d := qO (f := (PV.int .i64)) h6c
        have h6e := qQ h6c
        try simp only [List.length_cons, List.length_nil, Nat.zero_add, Nat.reduceAdd] at h6a h6e
        try simp only [h6e] at h6a
        try simp only [List.map_cons, List.map_nil, List.nil_append, List.append_nil, List.cons_append, List.singleton_append, zo, pvE] at h6d
        refine zb fun K kk hK => ?_
        simp only [go_sem, h6a, h6d, h6e]
        (repeat refine sd ?_)
        refine abm [] (by decide) (by decide) (Y9 _ _ h5) (by (try simp only [go_sem, h6a, h6d, h6e, h1, h3, h4]) <;> exact wkb) (by rfl) (by rfl) ?_
        simp only [go_sem, h6a, h6d, h6e]
        (repeat refine sd ?_)
        refine hK _ _ fun nx => ?_; clear hK K; try clear kk
        obtain ⟨⟨r_7, r_8⟩, h7, hh⟩ := ze hh
        dsimp only at hh
        refine zb fun K kk hK => ?_
        simp only [go_sem]
        refine zf (yj _ _ _ h7) (by (try simp only [go_sem]) <;> exact wkl) (by rfl) (by rfl) ?_
        simp only [go_sem]
        refine hK _ _ fun nx => ?_; clear hK K; try clear kk
        refine zb fun K kk hK => ?_
        simp only [go_sem]
        refine hK _ _ fun nx => ?_; clear hK K; try clear kk
        refine zk ?_; refine nmx ?_
        obtain hR := Option.some.inj hh
        subst hR
        exact zy
theorem ae7 (a_1 : zh) (zH : zz) (R : Bool) (hh : J7 a_1 zH = some R) : BC Tryd.prog 77 [.agg [.str a_1.Name, .str a_1.Value], .box 1000 0 0] [.var 39 [.int .u8 zH.Kind, .int .i64 zH.From, .int .i64 zH.To, .list 5 (zH.qK.map za.pv), .str zH.Name, .str zH.Value]] (.bool R) [.var 39 [.int .u8 zH.Kind, .int .i64 zH.From, .int .i64 zH.To, .list 5 (zH.qK.map za.pv), .str zH.Name, .str zH.Value]] := by
  rw [J7] at hh
  refine abj rfl rfl rfl ?_
  refine zb fun K kk hK => ?_
  simp only [go_sem]
  refine hK _ _ fun nx => ?_; clear hK K; try clear kk
  refine zb fun K kk hK => ?_
  simp only [go_sem]
  refine hK _ _ fun nx => ?_; clear hK K; try clear kk
  refine zk ?_; refine nmx ?_
  obtain hR := Option.some.inj hh
  subst hR
  refine ku ?_ (by rfl) ?_
  · simp only [go_sem, qV, jf, wP, kM, yl, List.map_cons, List.map_append, List.head?_cons]
    all_goals exact wkw
  · (try simp only [go_sem]); (try simp only [List.length_append, List.map_append]); all_goals exact wkb
theorem QT (s_1 : (List zh)) (zH : zz) (R : (Int × zz)) (hh : vV s_1 zH = some R) : BC Tryd.prog 76 [.list 2 (s_1.map zh.pv), .fn 77 [.box 1000 0 0]] [.var 39 [.int .u8 zH.Kind, .int .i64 zH.From, .int .i64 zH.To, .list 5 (zH.qK.map za.pv), .str zH.Name, .str zH.Value]] (.int .i64 R.1) [.var 39 [.int .u8 R.2.Kind, .int .i64 R.2.From, .int .i64 R.2.To, .list 5 (R.2.qK.map za.pv), .str R.2.Name, .str R.2.Value]] := by
  rw [vV] at hh
  refine Z7 rfl rfl rfl ?_
  refine zb fun K kk hK => ?_
  simp only [go_sem]
  refine hK _ _ fun nx => ?_; clear hK K; try clear kk
  refine zm ?_
  refine zb fun K kk hK => ?_
  simp only [go_sem]
  refine hK _ _ fun nx => ?_; clear hK K; try clear kk
  obtain ⟨e0, f0, hh⟩ := ze hh
  obtain ⟨hlen0, f0⟩ := qa f0
  refine qx (wS (fun s => .inr () = e0 ∧ ∃ (yY : Int) (Zx : Bool) (nx : Nat), s = ⟨[(0, .list 2 (s_1.map zh.pv)), (1, .fn 77 [.box 1000 0 0]), (7, .int .i64 (s_1.length : Int)), (8, .int .i64 yY), (9, .bool Zx)], [(1000, 0, .var 39 [.int .u8 zH.Kind, .int .i64 zH.From, .int .i64 zH.To, .list 5 (zH.qK.map za.pv), .str zH.Name, .str zH.Value])], nx⟩))
    (fun i s => False)
    (fun s => ∃ qf, .inl qf = e0 ∧ zS Tryd.prog [.tmp 4] (.int .i64 qf.1) [.var 39 [.int .u8 qf.2.Kind, .int .i64 qf.2.From, .int .i64 qf.2.To, .list 5 (qf.2.qK.map za.pv), .str qf.2.Name, .str qf.2.Value]] .ret s) ?_ ?_ ?_ ?_
  · refine zC ?_
    refine qo fun I hI => ?_
    have key : ∀ (suf pre : List zh) (v_5 : Int), s_1 = pre ++ suf → v_5 = (pre.length : Int) → qW zH suf v_5 = some e0 → ∀ (nx : Nat), I ⟨[(0, .list 2 (s_1.map zh.pv)), (1, .fn 77 [.box 1000 0 0]), (7, .int .i64 (s_1.length : Int)), (8, .int .i64 v_5)], [(1000, 0, .var 39 [.int .u8 zH.Kind, .int .i64 zH.From, .int .i64 zH.To, .list 5 (zH.qK.map za.pv), .str zH.Name, .str zH.Value])], nx⟩ := by
      intro suf
      induction suf with
      | nil =>
        intro pre v_5 hsplit hidx hh nx
        rw [qW] at hh
        refine hI _ ?_
        have h9 := walk_nil hsplit hidx
        refine zb fun K kk hK => ?_
        simp only [go_sem]
        refine hK _ _ fun nx => ?_; clear hK K; try clear kk
        refine zm ?_
        refine zi (by first | exact congrArg PV.bool h9 | rfl) ?_
        refine zZ ?_; refine nmx ?_
        refine kg ?_
        refine zJ ?_
        refine ⟨(Option.some.inj hh), ?_⟩
        first | exact ⟨_, _, _, rfl⟩ | (simp only [pvE, lsE, zo]; exact ⟨_, _, _, rfl⟩) | (simp only [pvE, lsE, zo, h9]; exact ⟨_, _, _, rfl⟩)
      | cons y_8 suf ih =>
        intro pre v_5 hsplit hidx hh nx
        rw [qW] at hh
        refine hI _ ?_
        obtain ⟨hl0a, hl0b, hl0d, hl0w, h9⟩ := qD (f := zh.pv) hsplit hidx hlen0
        refine zb fun K kk hK => ?_
        simp only [go_sem]
        refine hK _ _ fun nx => ?_; clear hK K; try clear kk
        refine zm ?_
        refine zn (by first | exact congrArg PV.bool h9 | rfl) ?_
        refine zt ?_; refine nmx ?_
        refine zm ?_
        refine zC ?_
        refine zb fun K kk hK => ?_
        simp only [go_sem, hl0a, hl0b, hl0d, hl0w]
        refine hK _ _ fun nx => ?_; clear hK K; try clear kk
        obtain ⟨ams, h10, hh⟩ := ze hh
        refine zb fun K kk hK => ?_
        simp only [go_sem, hl0a, hl0b, hl0d, hl0w]
        refine xc [1000] (by decide) (ae7 _ _ _ h10) (by (try simp only [go_sem, hl0a, hl0b, hl0d, hl0w, h9]) <;> exact wkb) (by rfl) ?_
        simp only [go_sem, hl0a, hl0b, hl0d, hl0w]
        refine hK _ _ fun nx => ?_; clear hK K; try clear kk
        by_cases h11 : (ams) = true
        · rw [if_pos h11] at hh
          refine zn (by first | exact congrArg PV.bool h11 | rfl) ?_
          refine zb fun K kk hK => ?_
          simp only [go_sem, hl0a, hl0b, hl0d, hl0w]
          refine hK _ _ fun nx => ?_; clear hK K; try clear kk
          refine zk ?_; refine nmx ?_
          refine xZ ⟨_, (Option.some.inj hh), ?_⟩
          refine ku ?_ (by rfl) ?_
          · simp only [go_sem, qV, jf, wP, kM, yl, List.map_cons, List.map_append, List.head?_cons, h11, h9]
            all_goals exact wkw
          · (try simp only [go_sem, h11, h9]); (try simp only [List.length_append, List.map_append]); all_goals exact wkb
        · rw [if_neg h11] at hh
          replace h11 := Bool.eq_false_iff.mpr h11
          refine zi (by first | exact congrArg PV.bool h11 | rfl) ?_
          refine zt ?_; refine nmx ?_
          refine zq fun K kk hK => ?_
          simp only [go_sem, hl0a, hl0b, hl0d, hl0w]
          refine hK _ _ fun nx => ?_; clear hK K; try clear kk
          refine nmx ?_
          have ih' := ih (pre ++ [y_8]) (v_5 + 1) (by rw [hsplit]; simp) (by simp [hidx]) hh nx
          refine zJ ?_
          first | exact ih' | (simp only [pvE, lsE, zo] at ih' ⊢; exact ih') | (simp only [pvE, lsE, zo, h11, h9] at ih' ⊢; exact ih')
    exact key s_1 [] _ rfl rfl f0 _
  · rintro s ⟨t, hless, rfl, yY, Zx, nx, rfl⟩
    try dsimp only at hh
    refine nmy ?_
    first | (refine qR hless ?_; try refine wT ?_) | refine qC hless ?_ | refine qE hless ?_
    refine zb fun K kk hK => ?_
    simp only [go_sem]
    refine hK _ _ fun nx => ?_; clear hK K; try clear kk
    refine zk ?_; refine nmx ?_
    obtain hR := Option.some.inj hh
    subst hR
    refine ku ?_ (by rfl) ?_
    · simp only [go_sem, qV, jf, wP, kM, yl, List.map_cons, List.map_append, List.head?_cons]
      all_goals exact wkw
    · (try simp only [go_sem]); (try simp only [List.length_append, List.map_append]); all_goals exact wkb
  · intro i s h; exact h.elim
  · rintro s ⟨qf, rfl, hb⟩
    try dsimp only at hh
    obtain hR := Option.some.inj hh
    subst hR
    refine nmx ?_
    exact hb
theorem jY (l : (List za)) (R : (List za)) (hh : qN l = some R) : PC Tryd.prog 71 [.list 5 (l.map za.pv)] (.own 5 (R.map za.pv)) := by
 rw [qN] at hh
 obtain ⟨ha, hb⟩ := z8 hh
 rw [List.nil_append] at hb
 subst hb
 try simp only [List.length_nil, Nat.zero_add] at ha
 refine KD rfl ?_
 refine zb fun K kk hK => ?_
 simp only [go_sem]
 refine hK _ _ fun nx => ?_; clear hK K; try clear kk
 refine zb fun K kk hK => ?_
 simp only [go_sem]
 refine ⟨fun hnil => hK _ _ fun nx => ?_, hK _ _ fun nx => ?_⟩ <;> (clear hK K; try clear kk)
 ·have hl : l = [] := by simpa using hnil
  subst hl
  first | refine zn rfl ?_ | (refine zm ?_; refine zn rfl ?_)
  refine zb fun K kk hK => ?_
  simp only [go_sem]
  refine hK _ _ fun nx => ?_; clear hK K; try clear kk
  refine zk ?_; refine nmx ?_
  exact XK rfl
 ·first | refine zi rfl ?_ | (refine zm ?_; refine zi rfl ?_)
  refine zt ?_; refine nmx ?_
  refine zb fun K kk hK => ?_
  simp only [go_sem, ha]
  refine hK _ _ fun nx => ?_; clear hK K; try clear kk
  refine zk ?_; refine nmx ?_
  exact YT (by rfl) (by rfl) (by rfl) (by simp) (by rfl)
theorem aga : ∀ kr : Nat, (∀ (n_1 : za) (qZ : (List Int)) (m_3 : za) (R : (za × Int)), jR kr n_1 qZ m_3 = some R → PC Tryd.prog 78 [.agg [.str n_1.Kind, .str n_1.Text, .list 1 (n_1.Marks.map PV.str), .list 2 (n_1.zu.map zh.pv), .list 5 (n_1.Kids.map za.pv)], .list 1 (qZ.map (PV.int .i64)), .agg [.str m_3.Kind, .str m_3.Text, .list 1 (m_3.Marks.map PV.str), .list 2 (m_3.zu.map zh.pv), .list 5 (m_3.Kids.map za.pv)]] (.tup [.agg [.str R.1.Kind, .str R.1.Text, .list 1 (R.1.Marks.map PV.str), .list 2 (R.1.zu.map zh.pv), .list 5 (R.1.Kids.map za.pv)], .int .i64 R.2])) := by
  intro kr
  induction kr with
  | zero => exact (by intro n_1 qZ m_3 R hh; rw [jR] at hh; cases hh)
  | succ kr ih =>
    have ih_place_With := ih
    clear ih
    intro n_1 qZ m_3 R hh
    rw [jR] at hh
    refine adR rfl ?_
    refine zb fun K kk hK => ?_
    simp only [go_sem]
    refine hK _ _ fun nx => ?_; clear hK K; try clear kk
    refine zm ?_
    obtain ⟨⟨r_4, r_5⟩, h1, hh⟩ := ze hh
    dsimp only at hh
    refine zb fun K kk hK => ?_
    simp only [go_sem]
    refine zf (yj _ _ _ h1) (by (try simp only [go_sem]) <;> exact wkl) (by rfl) (by rfl) ?_
    simp only [go_sem]
    refine hK _ _ fun nx => ?_; clear hK K; try clear kk
    refine zb fun K kk hK => ?_
    simp only [go_sem]
    refine hK _ _ fun nx => ?_; clear hK K; try clear kk
    by_cases h2 : (r_5 != (0 : Int)) = true
    · rw [if_pos h2] at hh
      refine zn (by first | exact congrArg PV.bool h2 | rfl) ?_
      refine zb fun K kk hK => ?_
      simp only [go_sem]
      refine hK _ _ fun nx => ?_; clear hK K; try clear kk
      refine zk ?_; refine nmx ?_
      obtain hR := Option.some.inj hh
      subst hR
      exact zy
    · rw [if_neg h2] at hh
      replace h2 := Bool.eq_false_iff.mpr h2
      refine zi (by first | exact congrArg PV.bool h2 | rfl) ?_
      refine zt ?_; refine nmx ?_
      refine zm ?_
      refine zb fun K kk hK => ?_
      simp only [go_sem]
      refine hK _ _ fun nx => ?_; clear hK K; try clear kk
      by_cases h3 : ((qZ.length : Int) == (0 : Int)) = true
      · rw [if_pos h3] at hh
        refine zn (by first | exact congrArg PV.bool h3 | rfl) ?_
        refine zb fun K kk hK => ?_
        simp only [go_sem]
        refine hK _ _ fun nx => ?_; clear hK K; try clear kk
        refine zk ?_; refine nmx ?_
        obtain hR := Option.some.inj hh
        subst hR
        exact zy
      · rw [if_neg h3] at hh
        replace h3 := Bool.eq_false_iff.mpr h3
        refine zi (by first | exact congrArg PV.bool h3 | rfl) ?_
        refine zt ?_; refine nmx ?_
        obtain ⟨am5, h4, hh⟩ := ze hh
        refine zb fun K kk hK => ?_
        simp only [go_sem]
        refine zf (jY _ _ h4) (by (try simp only [go_sem]) <;> exact wkl) (by rfl) (by rfl) ?_
        simp only [go_sem]
        refine hK _ _ fun nx => ?_; clear hK K; try clear kk
        obtain ⟨x_7, h5, hh⟩ := ze hh
        obtain ⟨h5a, h5b, h5c⟩ := rd_some h5
        have h5d := vD (f := (PV.int .i64)) h5c
        have h5f := wY (f := (PV.int .i64)) h5c
        try simp only [Int.toNat_natCast, Int.reduceToNat] at h5d h5f
        obtain ⟨x_8, h6, hh⟩ := ze hh
        obtain ⟨h6a, h6b, h6c⟩ := rd_some h6
        have h6d := vD (f := za.pv) h6c
        have h6f := wY (f := za.pv) h6c
        try simp only [Int.toNat_natCast, Int.reduceToNat] at h6d h6f
        obtain ⟨s_9, h7, hh⟩ := ze hh
        obtain ⟨h7a, h7c⟩ := Wm h7
        have h7g := aaB h7a
        have h7d := akr (f := (PV.int .i64)) h7c
        try simp only [Int.toNat_natCast, Int.reduceToNat, List.map_cons, List.map_nil, pvE] at h7d
        obtain ⟨⟨XT, adp⟩, h8, hh⟩ := ze hh
        dsimp only at hh
        obtain ⟨aku, h9, hh⟩ := ze hh
        obtain ⟨h9a, h9c⟩ := Y3 h9
        have h9d := adS (f := za.pv) h9c
        try simp only [Int.toNat_natCast, Int.reduceToNat, List.map_cons, List.map_nil, List.cons_append, List.nil_append, List.singleton_append, pvE] at h9d
        have h9e := adq h9c
        have h6b_h9 := h6b; rw [h9e] at h6b_h9
        have h6f1_h9 := h6f.1; rw [h9e] at h6f1_h9
        have h6a_h9 := h6a; try rw [h9e] at h6a_h9
        have h6d_h9 := h6d; try rw [h9e] at h6d_h9
        try rw [h9e] at h9d
        have h9bw := h9a.2; rw [h9e] at h9bw
        refine zb fun K kk hK => ?_
        simp only [go_sem, h5a, h5b, h5d, h5f.1, h5f.2, h6a, h6b, h6d, h6f.1, h6f.2, h7a.1, h7a.2.1, h7a.2.2, h7d, h7g, h9a.1, h9a.2, h9d, h9e, h6b_h9, h6f1_h9, h6a_h9, h6d_h9, h9bw]
        (repeat refine sd ?_)
        refine zf (ih_place_With _ _ _ _ h8) (by (try simp only [go_sem, h5a, h5b, h5d, h5f.1, h5f.2, h6a, h6b, h6d, h6f.1, h6f.2, h7a.1, h7a.2.1, h7a.2.2, h7d, h7g, h9a.1, h9a.2, h9d, h9e, h6b_h9, h6f1_h9, h6a_h9, h6d_h9, h9bw]) <;> exact wkl) (by rfl) (by rfl) ?_
        simp only [go_sem, h5a, h5b, h5d, h5f.1, h5f.2, h6a, h6b, h6d, h6f.1, h6f.2, h7a.1, h7a.2.1, h7a.2.2, h7d, h7g, h9a.1, h9a.2, h9d, h9e, h6b_h9, h6f1_h9, h6a_h9, h6d_h9, h9bw]
        (repeat refine sd ?_)
        try simp only [go_sem, h5a, h5b, h5d, h5f.1, h5f.2, h6a, h6b, h6d, h6f.1, h6f.2, h7a.1, h7a.2.1, h7a.2.2, h7d, h7g, h9a.1, h9a.2, h9d, h9e, h6b_h9, h6f1_h9, h6a_h9, h6d_h9, h9bw]
        refine hK _ _ fun nx => ?_; clear hK K; try clear kk
        refine zb fun K kk hK => ?_
        simp only [go_sem]
        refine hK _ _ fun nx => ?_; clear hK K; try clear kk
        refine zk ?_; refine nmx ?_
        obtain hR := Option.some.inj hh
        subst hR
        exact zy
theorem aaf (n_1 : za) (qZ : (List Int)) (m_3 : za) (R : (za × Int)) (hh : Q7 n_1 qZ m_3 = some R) : PC Tryd.prog 78 [.agg [.str n_1.Kind, .str n_1.Text, .list 1 (n_1.Marks.map PV.str), .list 2 (n_1.zu.map zh.pv), .list 5 (n_1.Kids.map za.pv)], .list 1 (qZ.map (PV.int .i64)), .agg [.str m_3.Kind, .str m_3.Text, .list 1 (m_3.Marks.map PV.str), .list 2 (m_3.zu.map zh.pv), .list 5 (m_3.Kids.map za.pv)]] (.tup [.agg [.str R.1.Kind, .str R.1.Text, .list 1 (R.1.Marks.map PV.str), .list 2 (R.1.zu.map zh.pv), .list 5 (R.1.Kids.map za.pv)], .int .i64 R.2]) := by
 rw [Q7] at hh
 obtain ⟨kr, hh⟩ := y8 hh
 exact (aga kr) _ _ _ _ hh
theorem ama (n_1 : za) (s_2 : zz) (R : (za × Str × Int)) (hh : ac6 n_1 s_2 = some R) : PC Tryd.prog 46 [.agg [.str n_1.Kind, .str n_1.Text, .list 1 (n_1.Marks.map PV.str), .list 2 (n_1.zu.map zh.pv), .list 5 (n_1.Kids.map za.pv)], .agg [.int .u8 s_2.Kind, .int .i64 s_2.From, .int .i64 s_2.To, .list 5 (s_2.qK.map za.pv), .str s_2.Name, .str s_2.Value]] (.tup [.agg [.str R.1.Kind, .str R.1.Text, .list 1 (R.1.Marks.map PV.str), .list 2 (R.1.zu.map zh.pv), .list 5 (R.1.Kids.map za.pv)], .str R.2.1, .int .i64 R.2.2]) := by
  rw [ac6] at hh
  refine ahp rfl ?_
  refine zb fun K kk hK => ?_
  simp only [go_sem]
  refine hK _ _ fun nx => ?_; clear hK K; try clear kk
  obtain ⟨⟨r_3, r_4⟩, h1, hh⟩ := ze hh
  dsimp only at hh
  refine zb fun K kk hK => ?_
  simp only [go_sem]
  refine zf (agj _ _ _ h1) (by (try simp only [go_sem]) <;> exact wkl) (by rfl) (by rfl) ?_
  simp only [go_sem]
  refine hK _ _ fun nx => ?_; clear hK K; try clear kk
  refine zm ?_
  refine zb fun K kk hK => ?_
  simp only [go_sem]
  refine hK _ _ fun nx => ?_; clear hK K; try clear kk
  by_cases h2 : (!r_4) = true
  · rw [if_pos h2] at hh
    refine zn (by first | exact congrArg PV.bool h2 | rfl) ?_
    refine zb fun K kk hK => ?_
    simp only [go_sem]
    refine hK _ _ fun nx => ?_; clear hK K; try clear kk
    refine zk ?_; refine nmx ?_
    obtain hR := Option.some.inj hh
    subst hR
    exact zy
  · rw [if_neg h2] at hh
    replace h2 := Bool.eq_false_iff.mpr h2
    refine zi (by first | exact congrArg PV.bool h2 | rfl) ?_
    refine zt ?_; refine nmx ?_
    obtain ⟨⟨r_5, r_6⟩, h3, hh⟩ := ze hh
    dsimp only at hh
    refine zb fun K kk hK => ?_
    simp only [go_sem]
    refine zf (yj _ _ _ h3) (by (try simp only [go_sem]) <;> exact wkl) (by rfl) (by rfl) ?_
    simp only [go_sem]
    refine hK _ _ fun nx => ?_; clear hK K; try clear kk
    obtain ⟨⟨r_7, aqi⟩, h4, hh⟩ := ze hh
    dsimp only at hh
    refine zb fun K kk hK => ?_
    simp only [go_sem]
    refine xc [3] (by decide) (QT _ _ _ h4) (by (try simp only [go_sem, h2]) <;> exact wkb) (by rfl) ?_
    simp only [go_sem]
    refine hK _ _ fun nx => ?_; clear hK K; try clear kk
    refine zm ?_
    refine zb fun K kk hK => ?_
    simp only [go_sem]
    refine hK _ _ fun nx => ?_; clear hK K; try clear kk
    by_cases h5 : (decide (r_7 < (0 : Int))) = true
    · rw [if_pos h5] at hh
      refine zn (by first | exact congrArg PV.bool h5 | rfl) ?_
      refine zb fun K kk hK => ?_
      simp only [go_sem]
      refine hK _ _ fun nx => ?_; clear hK K; try clear kk
      refine zk ?_; refine nmx ?_
      obtain hR := Option.some.inj hh
      subst hR
      exact zy
    · rw [if_neg h5] at hh
      replace h5 := Bool.eq_false_iff.mpr h5
      refine zi (by first | exact congrArg PV.bool h5 | rfl) ?_
      refine zt ?_; refine nmx ?_
      obtain ⟨x_9, h6, hh⟩ := ze hh
      obtain ⟨h6a, h6b, h6c⟩ := rd_some h6
      have h6d := vD (f := zh.pv) h6c
      have h6f := wY (f := zh.pv) h6c
      try simp only [Int.toNat_natCast, Int.reduceToNat] at h6d h6f
      refine zb fun K kk hK => ?_
      simp only [go_sem, h6a, h6b, h6d, h6f.1, h6f.2]
      (repeat refine sd ?_)
      refine hK _ _ fun nx => ?_; clear hK K; try clear kk
      obtain ⟨aki, h7, hh⟩ := ze hh
      refine zb fun K kk hK => ?_
      simp only [go_sem]
      refine zf (V3 _ _ h7) (by (try simp only [go_sem]) <;> exact wkl) (by rfl) (by rfl) ?_
      simp only [go_sem]
      refine hK _ _ fun nx => ?_; clear hK K; try clear kk
      obtain ⟨ahi, h8, hh⟩ := ze hh
      obtain ⟨h8a, h8b, h8c⟩ := rd_some h8
      have h8d := vD (f := zh.pv) h8c
      have h8f := wY (f := zh.pv) h8c
      try simp only [Int.toNat_natCast, Int.reduceToNat] at h8d h8f
      obtain ⟨aku, h9, hh⟩ := ze hh
      obtain ⟨h9a, h9c⟩ := Y3 h9
      have h9d := adS (f := zh.pv) h9c
      try simp only [Int.toNat_natCast, Int.reduceToNat, List.map_cons, List.map_nil, List.cons_append, List.nil_append, List.singleton_append, pvE] at h9d
      have h9e := adq h9c
      have h8b_h9 := h8b; rw [h9e] at h8b_h9
      have h8f1_h9 := h8f.1; rw [h9e] at h8f1_h9
      have h8a_h9 := h8a; try rw [h9e] at h8a_h9
      have h8d_h9 := h8d; try rw [h9e] at h8d_h9
      try rw [h9e] at h9d
      have h9bw := h9a.2; rw [h9e] at h9bw
      refine zb fun K kk hK => ?_
      simp only [go_sem, h8a, h8b, h8d, h8f.1, h8f.2, h9a.1, h9a.2, h9d, h9e, h8b_h9, h8f1_h9, h8a_h9, h8d_h9, h9bw]
      (repeat refine sd ?_)
      try simp only [go_sem, h8a, h8b, h8d, h8f.1, h8f.2, h9a.1, h9a.2, h9d, h9e, h8b_h9, h8f1_h9, h8a_h9, h8d_h9, h9bw]
      refine hK _ _ fun nx => ?_; clear hK K; try clear kk
      obtain ⟨⟨adE, ae0⟩, h10, hh⟩ := ze hh
      dsimp only at hh
      refine zb fun K kk hK => ?_
      simp only [go_sem]
      refine zf (aaf _ _ _ _ h10) (by (try simp only [go_sem]) <;> exact wkl) (by rfl) (by rfl) ?_
      simp only [go_sem]
      refine hK _ _ fun nx => ?_; clear hK K; try clear kk
      refine zb fun K kk hK => ?_
      simp only [go_sem]
      refine hK _ _ fun nx => ?_; clear hK K; try clear kk
      refine zk ?_; refine nmx ?_
      obtain hR := Option.some.inj hh
      subst hR
      exact zy
theorem acm (s : zz) (marks : (List Str)) (R : ((List Str) × Bool)) (hh : Qa s marks = some R) : PC Tryd.prog 112 [.agg [.int .u8 s.Kind, .int .i64 s.From, .int .i64 s.To, .list 5 (s.qK.map za.pv), .str s.Name, .str s.Value], .list 1 (marks.map PV.str)] (.tup [.list 1 (R.1.map PV.str), .bool R.2]) := by
 rw [Qa] at hh
 exact aqa s marks R hh
theorem Xe (VQ : Int) (aph : Int) (vE : Int) (zA : Int) (jF : Int) (ko : (List za)) (vH : Str) (w9 : Str) (l_9 : (List zg)) (R : (Int × Int × Int × (List za) × Str × Str × (List zg))) (hh : vT VQ aph vE zA jF ko vH w9 l_9 = some R) : BC Tryd.prog 113 [.box 1000 0 0, .int .i64 VQ, .int .i64 aph] [.var 136 [.int .u8 vE, .int .i64 zA, .int .i64 jF, .list 5 (ko.map za.pv), .str vH, .str w9, .row 1001 0 l_9.length], .row false 3 (l_9.map zg.pv)] (.tup []) [.var 136 [.int .u8 R.1, .int .i64 R.2.1, .int .i64 R.2.2.1, .list 5 (R.2.2.2.1.map za.pv), .str R.2.2.2.2.1, .str R.2.2.2.2.2.1, .row 1001 0 R.2.2.2.2.2.2.length], .moved 3 (R.2.2.2.2.2.2.map zg.pv)] := by
  rw [vT] at hh
  refine Vq rfl rfl rfl ?_
  refine zb fun K kk hK => ?_
  simp only [go_sem]
  refine hK _ _ fun nx => ?_; clear hK K; try clear kk
  refine zm ?_
  by_cases h1 : (decide ((w64 ((l_9.length : Int) - (1 : Int))) ≥ (0 : Int))) = true
  · rw [if_pos h1] at hh
    obtain ⟨ahR, h2, hh⟩ := ze hh
    obtain ⟨h2a, h2b, h2c⟩ := rd_some h2
    have h2d := vD (f := zg.pv) h2c
    have h2f := wY (f := zg.pv) h2c
    try simp only [Int.toNat_natCast, Int.reduceToNat] at h2d h2f
    refine zb fun K kk hK => ?_
    simp only [go_sem, h1, of_decide_eq_true h1, h2a, h2b, h2d, h2f.1, h2f.2]
    (repeat refine sd ?_)
    refine hK _ _ fun nx => ?_; clear hK K; try clear kk
    by_cases h3 : ((w64 (ahR.Pos + ahR.Old)) == VQ) = true
    · rw [if_pos h3] at hh
      refine zn (by first | exact congrArg PV.bool h3 | rfl) ?_
      obtain ⟨aqT, h4, hh⟩ := ze hh
      obtain ⟨h4a, h4c⟩ := Y3 h4
      have h4d := adS (f := zg.pv) h4c
      try simp only [Int.toNat_natCast, Int.reduceToNat, List.map_cons, List.map_nil, List.cons_append, List.nil_append, List.singleton_append, pvE] at h4d
      have h4e := adq h4c
      have h2b_h4 := h2b; rw [h4e] at h2b_h4
      have h2f1_h4 := h2f.1; rw [h4e] at h2f1_h4
      have h2a_h4 := h2a; try rw [h4e] at h2a_h4
      have h2d_h4 := h2d; try rw [h4e] at h2d_h4
      try rw [h4e] at h4d
      have h4bw := h4a.2; rw [h4e] at h4bw
      refine zb fun K kk hK => ?_
      simp only [go_sem, h2a, h2b, h2d, h2f.1, h2f.2, h4a.1, h4a.2, h4d, h4e, h2b_h4, h2f1_h4, h2a_h4, h2d_h4, h4bw]
      (repeat refine sd ?_)
      try simp only [go_sem, h2a, h2b, h2d, h2f.1, h2f.2, h4a.1, h4a.2, h4d, h4e, h2b_h4, h2f1_h4, h2a_h4, h2d_h4, h4bw]
      refine hK _ _ fun nx => ?_; clear hK K; try clear kk
      refine zk ?_; refine nmx ?_
      obtain hR := Option.some.inj hh
      subst hR
      refine ku ?_ (by rfl) ?_
      · simp only [go_sem, qV, jf, wP, kM, yl, List.map_cons, List.map_append, List.head?_cons, h1, h3]
        all_goals exact wkw
      · (try simp only [go_sem, h1, h3]); (try simp only [List.length_append, List.map_append, h4e]); all_goals exact wkb
    · rw [if_neg h3] at hh
      replace h3 := Bool.eq_false_iff.mpr h3
      refine zi (by first | exact congrArg PV.bool h3 | rfl) ?_
      refine zt ?_; refine nmx ?_
      obtain ⟨aku, h5, hh⟩ := ze hh
      obtain ⟨h5a, h5c⟩ := z8 h5
      have h5d := qO (f := zg.pv) h5c
      have h5e := qQ h5c
      try simp only [List.length_cons, List.length_nil, Nat.zero_add, Nat.reduceAdd] at h5a h5e
      try simp only [h5e] at h5a
      try simp only [List.map_cons, List.map_nil, List.nil_append, List.append_nil, List.cons_append, List.singleton_append, zo, pvE] at h5d
      refine zq fun K kk hK => ?_
      simp only [go_sem, h5a, h5d, h5e]
      (repeat refine sd ?_)
      refine hK _ _ fun nx => ?_; clear hK K; try clear kk
      refine nmx ?_
      obtain hR := Option.some.inj hh
      subst hR
      refine adb ?_
      refine ku ?_ (by rfl) ?_
      · simp only [go_sem, qV, jf, wP, kM, yl, List.map_cons, List.map_append, List.head?_cons, h1, h3]
        all_goals exact wkw
      · (try simp only [go_sem, h1, h3]); (try simp only [List.length_append, List.map_append, h5e]); all_goals exact wkb
  · rw [if_neg h1] at hh
    replace h1 := Bool.eq_false_iff.mpr h1
    refine zb fun K kk hK => ?_
    simp only [go_sem, h1, of_decide_eq_false h1]
    (repeat refine sd ?_)
    refine hK _ _ fun nx => ?_; clear hK K; try clear kk
    refine zi rfl ?_
    refine zt ?_; refine nmx ?_
    obtain ⟨auG, h6, hh⟩ := ze hh
    obtain ⟨h6a, h6c⟩ := z8 h6
    have h6d := qO (f := zg.pv) h6c
    have h6e := qQ h6c
    try simp only [List.length_cons, List.length_nil, Nat.zero_add, Nat.reduceAdd] at h6a h6e
    try simp only [h6e] at h6a
    try simp only [List.map_cons, List.map_nil, List.nil_append, List.append_nil, List.cons_append, List.singleton_append, zo, pvE] at h6d
    refine zq fun K kk hK => ?_
    simp only [go_sem, h6a, h6d, h6e]
    (repeat refine sd ?_)
    refine hK _ _ fun nx => ?_; clear hK K; try clear kk
    refine nmx ?_
    obtain hR := Option.some.inj hh
    subst hR
    refine adb ?_
    refine ku ?_ (by rfl) ?_
    · simp only [go_sem, qV, jf, wP, kM, yl, List.map_cons, List.map_append, List.head?_cons, h1]
      all_goals exact wkw
    · (try simp only [go_sem, h1]); (try simp only [List.length_append, List.map_append, h6e]); all_goals exact wkb
theorem j5 (a_1 : Int) (b_2 : Int) (afn : (List Str)) (QZ : za) (v_5 : (List Int)) (R : za) (hh : wL a_1 b_2 afn QZ v_5 = some R) : BC Tryd.prog 114 [.int .i64 a_1, .int .i64 b_2, .list 1 (afn.map PV.str), .box 1000 0 0, .box 1001 0 0] [.var 28 [.str QZ.Kind, .str QZ.Text, .list 1 (QZ.Marks.map PV.str), .list 2 (QZ.zu.map zh.pv), .list 5 (QZ.Kids.map za.pv)], .var 65 [.list 1 (v_5.map (PV.int .i32))]] (.agg [.str R.Kind, .str R.Text, .list 1 (R.Marks.map PV.str), .list 2 (R.zu.map zh.pv), .list 5 (R.Kids.map za.pv)]) [.var 28 [.str QZ.Kind, .str QZ.Text, .list 1 (QZ.Marks.map PV.str), .list 2 (QZ.zu.map zh.pv), .list 5 (QZ.Kids.map za.pv)], .var 65 [.list 1 (v_5.map (PV.int .i32))]] := by
  rw [wL] at hh
  refine Kt rfl rfl rfl ?_
  refine zb fun K kk hK => ?_
  simp only [go_sem]
  refine hK _ _ fun nx => ?_; clear hK K; try clear kk
  obtain ⟨s_6, h1, hh⟩ := ze hh
  obtain ⟨h1a, h1c⟩ := Wm h1
  have h1g := aaB h1a
  have h1d := atp (f := (PV.int .i32)) h1c
  try simp only [Int.toNat_natCast, Int.reduceToNat, List.map_cons, List.map_nil, pvE] at h1d
  refine zb fun K kk hK => ?_
  simp only [go_sem, h1a.1, h1a.2.1, h1a.2.2, h1d, h1g]
  (repeat refine sd ?_)
  refine hK _ _ fun nx => ?_; clear hK K; try clear kk
  refine zk ?_; refine nmx ?_
  obtain hR := Option.some.inj hh
  subst hR
  refine ku ?_ (by rfl) ?_
  · simp only [go_sem, qV, jf, wP, kM, yl, List.map_cons, List.map_append, List.head?_cons]
    all_goals exact wkw
  · (try simp only [go_sem]); (try simp only [List.length_append, List.map_append]); all_goals exact wkb
end Go.Proofs.YtclohbgnaopjfaaDoor
